import Derived.Test.YtdedpndkohfgbaaWAH
import Derived.Test.YtdedpndkohfgbaaRows
import Derived.JoinedOf
import Derived.KernelRfl
/- Part of the proofs over Ytdedpndkohfgbaa: L17. -/
set_option linter.unusedVariables false
set_option linter.unusedSimpArgs false
set_option linter.unnecessarySimpa false
open Go Go.Proofs Go.Pv
/- The law TopWedges: for every input the call returns true and the arguments read as before. No conditions. -/
set_option maxHeartbeats 1000000
set_option maxRecDepth 100000
set_option linter.unusedVariables false
namespace Go.Pv.Soil

theorem lifted17 (os : Os) (started : os.Started) (H : Type) (enc : TypeId × Value → H) :
    ReturnsInHanded {} Try.checked os 17 .any (Go.Proofs.Ytdedpndkohfgbaa.Rows.topWedgesSpec.pre6 enc Try.prog Try.f17 Go.Proofs.Ytdedpndkohfgbaa.Rows.topWedgesRow.domain false) (Go.Proofs.Ytdedpndkohfgbaa.Rows.topWedgesSpec.post enc Try.prog Try.f17 false true false false) := by
  refine returnsInHanded_of_change (C := Try.checked) own started (by kernel_rfl) Try.func17
    (ChangeSpec.witness6 (enc := enc) (C := Try.checked) false ⟨#[], #[.agg #[.string ⟨#[]⟩, .int .i64 0, .int .i64 0, .int .i64 0, .int .i64 0, .int .i64 0, .int .i64 0], .agg #[.int .i64 0, .int .i64 0, .int .i64 0, .int .i64 0, .int .i64 0, .slice none 0 0]], []⟩ 8 (by kernel_rfl) (by kernel_rfl) (by kernel_rfl) (by kernel_rfl)) ?_
  intro W base args ds gs before hval hW _ _
  refine law_frame (tb := 4) rfl (by rw [Try.params17]; exact aWedge) (fun ds h => ?_) (by kernel_rfl) Try.underlying4 laidOut (by rw [Try.params17]; kernel_rfl) ((fun (x : Quay × Grid) (h : x.1.name.size ≤ maxLen ∧ okMap x.2) => c17 x.1 x.2 h.2.2.1)) W base args ds gs before hval hW
  rw [Try.params17] at h
  match ds, h with
  | [d0, d1], _ => rfl

theorem closed17 : joinedFacts Try.prog 17 Try.f17 Go.Proofs.Ytdedpndkohfgbaa.Rows.topWedgesSpec Go.Proofs.Ytdedpndkohfgbaa.Rows.topWedgesRow = true := by
  unfold joinedFacts
  simp only [Bool.and_eq_true]
  repeat' apply And.intro
  all_goals (as_aux_lemma => kernel_rfl)

theorem over17 : Go.Proofs.Ytdedpndkohfgbaa.Rows.topWedgesRow.holds Go.Proofs.Ytdedpndkohfgbaa.Try.pinned (OpenSpec.ofChange Go.Proofs.Ytdedpndkohfgbaa.Rows.topWedgesSpec) :=
  OpenClaim.holds_of_wide 17 Try.f17 rfl rfl rfl rfl rfl rfl rfl ⟨rfl, rfl, rfl, rfl, rfl⟩ rfl rfl rfl rfl rfl (by as_aux_lemma => kernel_rfl) Try.func17 closed17
    (of_decide_eq_true (by as_aux_lemma => kernel_rfl)) (by unfold Func.isWrapper; first | (rw [if_pos (by decide +kernel)]; as_aux_lemma => kernel_rfl) | (rw [if_neg (by decide +kernel)]; exact ⟨rfl, rfl⟩))
    (fun os started H enc _ => lifted17 os started H enc)
end Go.Pv.Soil
namespace Go.Proofs.Ytdedpndkohfgbaa
theorem topWedges_holds : Rows.TopWedgesSaid := Go.Pv.Soil.over17
end Go.Proofs.Ytdedpndkohfgbaa

import Derived.Test.YtdedpndkohfgbaaTB
import Derived.Test.YtdedpndkohfgbaaReadsC
import Derived.Test.YtdedpndkohfgbaaRows
import Derived.JoinedOf
import Derived.KernelRfl
/- Part of the proofs over Ytdedpndkohfgbaa: L15. -/
set_option linter.unusedVariables false
set_option linter.unusedSimpArgs false
set_option linter.unnecessarySimpa false
open Go Go.Proofs Go.Pv
/- The law TopSlumpOnce: for every input the call returns true and the arguments read as before. No conditions. -/
set_option maxHeartbeats 1000000
set_option maxRecDepth 100000
set_option linter.unusedVariables false
namespace Go.Pv.Soil

theorem lifted15 (os : Os) (started : os.Started) (H : Type) (enc : TypeId × Value → H) :
    ReturnsInHanded {} Try.checked os 15 .any (Go.Proofs.Ytdedpndkohfgbaa.Rows.topSlumpOnceSpec.pre6 enc Try.prog Try.f15 Go.Proofs.Ytdedpndkohfgbaa.Rows.topSlumpOnceRow.domain false) (Go.Proofs.Ytdedpndkohfgbaa.Rows.topSlumpOnceSpec.post enc Try.prog Try.f15 false true false false) := by
  refine returnsInHanded_of_change (C := Try.checked) own started (by kernel_rfl) Try.func15
    (ChangeSpec.witness6 (enc := enc) (C := Try.checked) false ⟨#[], #[.agg #[.slice none 0 0, .slice none 0 0], .agg #[.int .i64 0, .int .i64 0, .int .i64 0, .int .i64 0, .int .i64 0, .slice none 0 0], .agg #[.int .i64 0, .int .i64 0, .int .i64 0, .int .i64 0]], []⟩ 8 (by kernel_rfl) (by kernel_rfl) (by kernel_rfl) (by kernel_rfl)) ?_
  intro W base args ds gs before hval hW _ _
  refine law_frame (tb := 4) rfl (by rw [Try.params15]; exact aDigs) (fun ds h => ?_) (by kernel_rfl) Try.underlying4 laidOut (by rw [Try.params15]; kernel_rfl) (fun (x : Ground × Grid × Dig) (h : okGround x.1 ∧ okMap x.2.1) => c15 x.1 x.2.1 x.2.2 h.2.2.1 h.1.1.1 h.1.2.1) W base args ds gs before hval hW
  rw [Try.params15] at h
  match ds, h with
  | [d0, d1, d2], _ => rfl

theorem closed15 : joinedFacts Try.prog 15 Try.f15 Go.Proofs.Ytdedpndkohfgbaa.Rows.topSlumpOnceSpec Go.Proofs.Ytdedpndkohfgbaa.Rows.topSlumpOnceRow = true := by
  unfold joinedFacts
  simp only [Bool.and_eq_true]
  repeat' apply And.intro
  all_goals (as_aux_lemma => kernel_rfl)

theorem over15 : Go.Proofs.Ytdedpndkohfgbaa.Rows.topSlumpOnceRow.holds Go.Proofs.Ytdedpndkohfgbaa.Try.pinned (OpenSpec.ofChange Go.Proofs.Ytdedpndkohfgbaa.Rows.topSlumpOnceSpec) :=
  OpenClaim.holds_of_wide 15 Try.f15 rfl rfl rfl rfl rfl rfl rfl ⟨rfl, rfl, rfl, rfl, rfl⟩ rfl rfl rfl rfl rfl (by as_aux_lemma => kernel_rfl) Try.func15 closed15
    (of_decide_eq_true (by as_aux_lemma => kernel_rfl)) (by unfold Func.isWrapper; first | (rw [if_pos (by decide +kernel)]; as_aux_lemma => kernel_rfl) | (rw [if_neg (by decide +kernel)]; exact ⟨rfl, rfl⟩))
    (fun os started H enc _ => lifted15 os started H enc)
end Go.Pv.Soil
namespace Go.Proofs.Ytdedpndkohfgbaa
theorem topSlumpOnce_holds : Rows.TopSlumpOnceSaid := Go.Pv.Soil.over15
end Go.Proofs.Ytdedpndkohfgbaa

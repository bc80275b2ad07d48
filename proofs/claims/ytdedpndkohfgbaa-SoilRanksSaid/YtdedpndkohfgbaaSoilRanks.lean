import Derived.Test.YtdedpndkohfgbaaKAF
import Derived.Test.YtdedpndkohfgbaaRows
import Derived.JoinedOf
import Derived.KernelRfl
/- Part of the proofs over Ytdedpndkohfgbaa: L18. -/
set_option linter.unusedVariables false
set_option linter.unusedSimpArgs false
set_option linter.unnecessarySimpa false
open Go Go.Proofs Go.Pv
/- The law SoilRanks: for every input the call returns true and the arguments read as before. No conditions. -/
set_option maxHeartbeats 1000000
set_option maxRecDepth 100000
set_option linter.unusedVariables false
namespace Go.Pv.Soil

theorem lifted16 (os : Os) (started : os.Started) (H : Type) (enc : TypeId × Value → H) :
    ReturnsInHanded {} Try.checked os 16 .any (Go.Proofs.Ytdedpndkohfgbaa.Rows.soilRanksSpec.pre6 enc Try.prog Try.f16 Go.Proofs.Ytdedpndkohfgbaa.Rows.soilRanksRow.domain false) (Go.Proofs.Ytdedpndkohfgbaa.Rows.soilRanksSpec.post enc Try.prog Try.f16 false true false false) := by
  refine returnsInHanded_of_change (C := Try.checked) own started (by kernel_rfl) Try.func16
    (ChangeSpec.witness6 (enc := enc) (C := Try.checked) false ⟨#[], #[.slice none 0 0, .agg #[.int .i64 0, .int .i64 0, .int .i64 0], .agg #[.int .u16 0, .int .u16 0]], []⟩ 8 (by kernel_rfl) (by kernel_rfl) (by kernel_rfl) (by kernel_rfl)) ?_
  intro W base args ds gs before hval hW _ _
  refine law_frame (tb := 4) rfl (by rw [Try.params16]; exact aRanks) (fun ds h => ?_) (by kernel_rfl) Try.underlying4 laidOut (by rw [Try.params16]; kernel_rfl) (fun (x : List Int × (Int × Int × Int) × (Int × Int)) (h : x.1.length ≤ 9223372036854775807 ∧ (0 ≤ x.2.2.1 ∧ x.2.2.1 ≤ 65535) ∧ 0 ≤ x.2.2.2 ∧ x.2.2.2 ≤ 65535) => c_ranks x.1 h.1 x.2.1.1 x.2.1.2.1 x.2.1.2.2 x.2.2.1 x.2.2.2 h.2.1 h.2.2) W base args ds gs before hval hW
  rw [Try.params16] at h
  match ds, h with
  | [d0, d1, d2], _ => rfl

theorem closed16 : joinedFacts Try.prog 16 Try.f16 Go.Proofs.Ytdedpndkohfgbaa.Rows.soilRanksSpec Go.Proofs.Ytdedpndkohfgbaa.Rows.soilRanksRow = true := by
  unfold joinedFacts
  simp only [Bool.and_eq_true]
  repeat' apply And.intro
  all_goals (as_aux_lemma => kernel_rfl)

theorem over16 : Go.Proofs.Ytdedpndkohfgbaa.Rows.soilRanksRow.holds Go.Proofs.Ytdedpndkohfgbaa.Try.pinned (OpenSpec.ofChange Go.Proofs.Ytdedpndkohfgbaa.Rows.soilRanksSpec) :=
  OpenClaim.holds_of_wide 16 Try.f16 rfl rfl rfl rfl rfl rfl rfl ⟨rfl, rfl, rfl, rfl, rfl⟩ rfl rfl rfl rfl rfl (by as_aux_lemma => kernel_rfl) Try.func16 closed16
    (of_decide_eq_true (by as_aux_lemma => kernel_rfl)) (by unfold Func.isWrapper; first | (rw [if_pos (by decide +kernel)]; as_aux_lemma => kernel_rfl) | (rw [if_neg (by decide +kernel)]; exact ⟨rfl, rfl⟩))
    (fun os started H enc _ => lifted16 os started H enc)
end Go.Pv.Soil
namespace Go.Proofs.Ytdedpndkohfgbaa
theorem soilRanks_holds : Rows.SoilRanksSaid := Go.Pv.Soil.over16
end Go.Proofs.Ytdedpndkohfgbaa

import Derived.Test.YtdedpndkohfgbaaSD
import Derived.Test.YtdedpndkohfgbaaReads
import Derived.Test.YtdedpndkohfgbaaRows
import Derived.JoinedOf
import Derived.KernelRfl
/- Part of the proofs over Ytdedpndkohfgbaa: L7. -/
set_option linter.unusedVariables false
set_option linter.unusedSimpArgs false
set_option linter.unnecessarySimpa false
open Go Go.Proofs Go.Pv
/- The law SoilCarries: for every input the call returns true and the arguments read as before. No conditions. -/
set_option maxHeartbeats 1000000
set_option maxRecDepth 100000
set_option linter.unusedVariables false
namespace Go.Pv.Soil

theorem lifted7 (os : Os) (started : os.Started) (H : Type) (enc : TypeId × Value → H) :
    ReturnsInHanded {} Try.checked os 7 .any (Go.Proofs.Ytdedpndkohfgbaa.Rows.soilCarriesSpec.pre6 enc Try.prog Try.f7 Go.Proofs.Ytdedpndkohfgbaa.Rows.soilCarriesRow.domain false) (Go.Proofs.Ytdedpndkohfgbaa.Rows.soilCarriesSpec.post enc Try.prog Try.f7 false true false false) := by
  refine returnsInHanded_of_change (C := Try.checked) own started (by kernel_rfl) Try.func7
    (ChangeSpec.witness6 (enc := enc) (C := Try.checked) false ⟨#[], #[.agg #[.string ⟨#[]⟩, .int .i64 0, .int .i64 0, .int .i64 0, .int .i64 0], .int .i64 0, .int .i64 0], []⟩ 8 (by kernel_rfl) (by kernel_rfl) (by kernel_rfl) (by kernel_rfl)) ?_
  intro W base args ds gs before hval hW _ _
  refine law_frame (tb := 4) rfl (by rw [Try.params7]; exact aSoilII) (fun ds h => ?_) (by kernel_rfl) Try.underlying4 laidOut (by rw [Try.params7]; kernel_rfl) (fun (x : Soil × Int × Int) _ => c7 x.1 x.2.1 x.2.2) W base args ds gs before hval hW
  rw [Try.params7] at h
  match ds, h with
  | [d0, d1, d2], _ => rfl

theorem closed7 : joinedFacts Try.prog 7 Try.f7 Go.Proofs.Ytdedpndkohfgbaa.Rows.soilCarriesSpec Go.Proofs.Ytdedpndkohfgbaa.Rows.soilCarriesRow = true := by
  unfold joinedFacts
  simp only [Bool.and_eq_true]
  repeat' apply And.intro
  all_goals (as_aux_lemma => kernel_rfl)

theorem over7 : Go.Proofs.Ytdedpndkohfgbaa.Rows.soilCarriesRow.holds Go.Proofs.Ytdedpndkohfgbaa.Try.pinned (OpenSpec.ofChange Go.Proofs.Ytdedpndkohfgbaa.Rows.soilCarriesSpec) :=
  OpenClaim.holds_of_wide 7 Try.f7 rfl rfl rfl rfl rfl rfl rfl ⟨rfl, rfl, rfl, rfl, rfl⟩ rfl rfl rfl rfl rfl (by as_aux_lemma => kernel_rfl) Try.func7 closed7
    (of_decide_eq_true (by as_aux_lemma => kernel_rfl)) (by unfold Func.isWrapper; first | (rw [if_pos (by decide +kernel)]; as_aux_lemma => kernel_rfl) | (rw [if_neg (by decide +kernel)]; exact ⟨rfl, rfl⟩))
    (fun os started H enc _ => lifted7 os started H enc)
end Go.Pv.Soil
namespace Go.Proofs.Ytdedpndkohfgbaa
theorem soilCarries_holds : Rows.SoilCarriesSaid := Go.Pv.Soil.over7
end Go.Proofs.Ytdedpndkohfgbaa

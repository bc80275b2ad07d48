import Derived.Test.YtdedpndkohfgbaaQV
import Derived.Test.YtdedpndkohfgbaaQReads
import Derived.Test.YtdedpndkohfgbaaRows
import Derived.JoinedOf
import Derived.KernelRfl
/- Part of the proofs over Ytdedpndkohfgbaa: L14. -/
set_option linter.unusedVariables false
set_option linter.unusedSimpArgs false
set_option linter.unnecessarySimpa false
open Go Go.Proofs Go.Pv
/- The law SoilChosen: for every input the call returns true and the arguments read as before. No conditions. -/
set_option maxHeartbeats 1000000
set_option maxRecDepth 100000
set_option linter.unusedVariables false
namespace Go.Pv.Soil

theorem lifted14 (os : Os) (started : os.Started) (H : Type) (enc : TypeId × Value → H) :
    ReturnsInHanded {} Try.checked os 14 .any (Go.Proofs.Ytdedpndkohfgbaa.Rows.soilChosenSpec.pre6 enc Try.prog Try.f14 Go.Proofs.Ytdedpndkohfgbaa.Rows.soilChosenRow.domain false) (Go.Proofs.Ytdedpndkohfgbaa.Rows.soilChosenSpec.post enc Try.prog Try.f14 false true false false) := by
  refine returnsInHanded_of_change (C := Try.checked) own started (by kernel_rfl) Try.func14
    (ChangeSpec.witness6 (enc := enc) (C := Try.checked) false ⟨#[], #[.slice none 0 0, .agg #[.slice none 0 0, .int .i64 0, .int .i64 0]], []⟩ 8 (by kernel_rfl) (by kernel_rfl) (by kernel_rfl) (by kernel_rfl)) ?_
  intro W base args ds gs before hval hW _ _
  refine law_frame (tb := 4) rfl (by rw [Try.params14]; exact aArea) (fun ds h => ?_) (by kernel_rfl) Try.underlying4 laidOut (by rw [Try.params14]; kernel_rfl) (fun (x : List Sample × List Geo.Pt × Int × Int) (h : x.1.length ≤ 9223372036854775807) => c14 x.1 h x.2.1 x.2.2.1 x.2.2.2) W base args ds gs before hval hW
  rw [Try.params14] at h
  match ds, h with
  | [d0, d1], _ => rfl

theorem closed14 : joinedFacts Try.prog 14 Try.f14 Go.Proofs.Ytdedpndkohfgbaa.Rows.soilChosenSpec Go.Proofs.Ytdedpndkohfgbaa.Rows.soilChosenRow = true := by
  unfold joinedFacts
  simp only [Bool.and_eq_true]
  repeat' apply And.intro
  all_goals (as_aux_lemma => kernel_rfl)

theorem over14 : Go.Proofs.Ytdedpndkohfgbaa.Rows.soilChosenRow.holds Go.Proofs.Ytdedpndkohfgbaa.Try.pinned (OpenSpec.ofChange Go.Proofs.Ytdedpndkohfgbaa.Rows.soilChosenSpec) :=
  OpenClaim.holds_of_wide 14 Try.f14 rfl rfl rfl rfl rfl rfl rfl ⟨rfl, rfl, rfl, rfl, rfl⟩ rfl rfl rfl rfl rfl (by as_aux_lemma => kernel_rfl) Try.func14 closed14
    (of_decide_eq_true (by as_aux_lemma => kernel_rfl)) (by unfold Func.isWrapper; first | (rw [if_pos (by decide +kernel)]; as_aux_lemma => kernel_rfl) | (rw [if_neg (by decide +kernel)]; exact ⟨rfl, rfl⟩))
    (fun os started H enc _ => lifted14 os started H enc)
end Go.Pv.Soil
namespace Go.Proofs.Ytdedpndkohfgbaa
theorem soilChosen_holds : Rows.SoilChosenSaid := Go.Pv.Soil.over14
end Go.Proofs.Ytdedpndkohfgbaa

import Derived.Test.YtfklpkgdobdbpaaGreatRows
import Derived.JoinedOf
import Derived.Test.YtfklpkgdobdbpaaGreatCCA
/- Part of the proofs over YtfklpkgdobdbpaaGreat: LCCutTimes. -/
set_option linter.unusedVariables false
set_option linter.unusedSimpArgs false
set_option linter.unnecessarySimpa false
open Go Go.Proofs Go.Pv
/- The law CutTimes: for every input the call returns true and the arguments read as before. No conditions. -/
set_option maxHeartbeats 400000000
set_option maxRecDepth 100000
set_option linter.unusedVariables false
namespace Go.Pv.Soil

theorem frameCutTimes (x : Site × List Cut × (Int × Int × Int)) (hx : Wide x.1 ∧ x.2.1.length ≤ 9223372036854775807 ∧ True) :
    Contract Tryz.prog 15 [.agg (encSite x.1), .sl (x.2.1.map encCut), .agg (encVio0 x.2.2)] (.ret (.bool true)) := law_times x.1 hx.1 x.2.1 hx.2.1 x.2.2
theorem lifted15 (os : Os) (started : os.Started) (H : Type) (enc : TypeId × Value → H) :
    ReturnsInHanded {} Tryz.checked os 15 .any (Go.Proofs.YtfklpkgdobdbpaaGreat.Rows.cutTimesSpec.pre6 enc Tryz.prog Tryz.f15 Go.Proofs.YtfklpkgdobdbpaaGreat.Rows.cutTimesRow.domain false) (Go.Proofs.YtfklpkgdobdbpaaGreat.Rows.cutTimesSpec.post enc Tryz.prog Tryz.f15 false true false false) := by
  refine returnsInHanded_of_change (C := Tryz.checked) own started (by kernel_rfl) Tryz.func15
    (ChangeSpec.witness6 (enc := enc) (C := Tryz.checked) false ⟨#[], #[.agg #[.int .i64 0, .int .i64 0, .int .i64 0, .int .i64 0, .int .i64 0, .slice none 0 0, .slice none 0 0, .slice none 0 0, .slice none 0 0, .slice none 0 0, .slice none 0 0, .slice none 0 0], .slice none 0 0, .agg #[.int .i64 0, .int .i64 0, .int .i64 0]], []⟩ 8 (by kernel_rfl) (by kernel_rfl) (by kernel_rfl) (by kernel_rfl)) ?_
  intro W base args ds gs before hval hW _ _
  refine law_frame (tb := 4) rfl (by rw [Tryz.params15]; exact aTimes) (fun ds h => ?_) (by kernel_rfl) Tryz.underlying4 laidOut (by rw [Tryz.params15]; kernel_rfl) (frameCutTimes) W base args ds gs before hval hW
  rw [Tryz.params15] at h
  match ds, h with
  | [d0, d1, d2], _ => rfl

theorem closed15 : joinedFacts Tryz.prog 15 Tryz.f15 Go.Proofs.YtfklpkgdobdbpaaGreat.Rows.cutTimesSpec Go.Proofs.YtfklpkgdobdbpaaGreat.Rows.cutTimesRow = true := by
  unfold joinedFacts
  simp only [Bool.and_eq_true]
  repeat' apply And.intro
  all_goals (as_aux_lemma => kernel_rfl)

theorem over15 : Go.Proofs.YtfklpkgdobdbpaaGreat.Rows.cutTimesRow.holds Go.Proofs.YtfklpkgdobdbpaaGreat.Tryz.pinned (OpenSpec.ofChange Go.Proofs.YtfklpkgdobdbpaaGreat.Rows.cutTimesSpec) :=
  OpenClaim.holds_of_wide 15 Tryz.f15 rfl rfl rfl rfl rfl rfl rfl ⟨rfl, rfl, rfl, rfl, rfl⟩ rfl rfl rfl rfl rfl (by as_aux_lemma => kernel_rfl) Tryz.func15 closed15
    (of_decide_eq_true (by as_aux_lemma => kernel_rfl)) (by unfold Func.isWrapper; first | (rw [if_pos (by decide +kernel)]; as_aux_lemma => kernel_rfl) | (rw [if_neg (by decide +kernel)]; exact ⟨rfl, rfl⟩))
    (fun os started H enc _ => lifted15 os started H enc)
end Go.Pv.Soil
namespace Go.Proofs.YtfklpkgdobdbpaaGreat
theorem cutTimes_holds : Rows.CutTimesSaid := Go.Pv.Soil.over15
end Go.Proofs.YtfklpkgdobdbpaaGreat

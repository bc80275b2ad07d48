import Derived.Test.YtfklpkgdobdbpaaGreatRows
import Derived.JoinedOf
import Derived.Test.YtfklpkgdobdbpaaGreatCBY
/- Part of the proofs over YtfklpkgdobdbpaaGreat: LCCutCuts. -/
set_option linter.unusedVariables false
set_option linter.unusedSimpArgs false
set_option linter.unnecessarySimpa false
open Go Go.Proofs Go.Pv
/- The law CutCuts: for every input the call returns true and the arguments read as before. No conditions. -/
set_option maxHeartbeats 400000000
set_option maxRecDepth 100000
set_option linter.unusedVariables false
namespace Go.Pv.Soil

theorem frameCutCuts (x : Site × Grid × Cut) (hx : Wide x.1 ∧ x.2.1.levels.length ≤ 9223372036854775807 ∧ True) :
    Contract Tryz.prog 8 [.agg (encSite x.1), .agg (encGrid x.2.1), .agg (encCut x.2.2)] (.ret (.bool true)) := law_cuts x.1 hx.1 x.2.1 hx.2.1 x.2.2
theorem lifted8 (os : Os) (started : os.Started) (H : Type) (enc : TypeId × Value → H) :
    ReturnsInHanded {} Tryz.checked os 8 .any (Go.Proofs.YtfklpkgdobdbpaaGreat.Rows.cutCutsSpec.pre6 enc Tryz.prog Tryz.f8 Go.Proofs.YtfklpkgdobdbpaaGreat.Rows.cutCutsRow.domain false) (Go.Proofs.YtfklpkgdobdbpaaGreat.Rows.cutCutsSpec.post enc Tryz.prog Tryz.f8 false true false false) := by
  refine returnsInHanded_of_change (C := Tryz.checked) own started (by kernel_rfl) Tryz.func8
    (ChangeSpec.witness6 (enc := enc) (C := Tryz.checked) false ⟨#[], #[.agg #[.int .i64 0, .int .i64 0, .int .i64 0, .int .i64 0, .int .i64 0, .slice none 0 0, .slice none 0 0, .slice none 0 0, .slice none 0 0, .slice none 0 0, .slice none 0 0, .slice none 0 0], .agg #[.int .i64 0, .int .i64 0, .int .i64 0, .int .i64 0, .int .i64 0, .slice none 0 0], .agg #[.string ⟨#[]⟩, .string ⟨#[]⟩, .int .i64 0, .int .i64 0, .int .i64 0, .int .i64 0, .int .i64 0, .int .i64 0]], []⟩ 8 (by kernel_rfl) (by kernel_rfl) (by kernel_rfl) (by kernel_rfl)) ?_
  intro W base args ds gs before hval hW _ _
  refine law_frame (tb := 4) rfl (by rw [Tryz.params8]; exact aBed) (fun ds h => ?_) (by kernel_rfl) Tryz.underlying4 laidOut (by rw [Tryz.params8]; kernel_rfl) (frameCutCuts) W base args ds gs before hval hW
  rw [Tryz.params8] at h
  match ds, h with
  | [d0, d1, d2], _ => rfl

theorem closed8 : joinedFacts Tryz.prog 8 Tryz.f8 Go.Proofs.YtfklpkgdobdbpaaGreat.Rows.cutCutsSpec Go.Proofs.YtfklpkgdobdbpaaGreat.Rows.cutCutsRow = true := by
  unfold joinedFacts
  simp only [Bool.and_eq_true]
  repeat' apply And.intro
  all_goals (as_aux_lemma => kernel_rfl)

theorem over8 : Go.Proofs.YtfklpkgdobdbpaaGreat.Rows.cutCutsRow.holds Go.Proofs.YtfklpkgdobdbpaaGreat.Tryz.pinned (OpenSpec.ofChange Go.Proofs.YtfklpkgdobdbpaaGreat.Rows.cutCutsSpec) :=
  OpenClaim.holds_of_wide 8 Tryz.f8 rfl rfl rfl rfl rfl rfl rfl ⟨rfl, rfl, rfl, rfl, rfl⟩ rfl rfl rfl rfl rfl (by as_aux_lemma => kernel_rfl) Tryz.func8 closed8
    (of_decide_eq_true (by as_aux_lemma => kernel_rfl)) (by unfold Func.isWrapper; first | (rw [if_pos (by decide +kernel)]; as_aux_lemma => kernel_rfl) | (rw [if_neg (by decide +kernel)]; exact ⟨rfl, rfl⟩))
    (fun os started H enc _ => lifted8 os started H enc)
end Go.Pv.Soil
namespace Go.Proofs.YtfklpkgdobdbpaaGreat
theorem cutCuts_holds : Rows.CutCutsSaid := Go.Pv.Soil.over8
end Go.Proofs.YtfklpkgdobdbpaaGreat

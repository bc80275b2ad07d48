import Derived.Test.YtfklpkgdobdbpaaGreatRows
import Derived.JoinedOf
import Derived.Test.YtfklpkgdobdbpaaGreatCCA
/- Part of the proofs over YtfklpkgdobdbpaaGreat: LCCutRefusals. -/
set_option linter.unusedVariables false
set_option linter.unusedSimpArgs false
set_option linter.unnecessarySimpa false
open Go Go.Proofs Go.Pv
/- The law CutRefusals: for every input the call returns true and the arguments read as before. No conditions. -/
set_option maxHeartbeats 400000000
set_option maxRecDepth 100000
set_option linter.unusedVariables false
namespace Go.Pv.Soil

theorem frameCutRefusals (x : Site × Grid × Cut) (hx : Wide x.1 ∧ x.2.1.levels.length ≤ 9223372036854775807 ∧ True) :
    Contract Tryz.prog 4 [.agg (encSite x.1), .agg (encGrid x.2.1), .agg (encCut x.2.2)] (.ret (.bool true)) := law_refusals x.1 hx.1 x.2.1 hx.2.1 x.2.2
theorem lifted4 (os : Os) (started : os.Started) (H : Type) (enc : TypeId × Value → H) :
    ReturnsInHanded {} Tryz.checked os 4 .any (Go.Proofs.YtfklpkgdobdbpaaGreat.Rows.cutRefusalsSpec.pre6 enc Tryz.prog Tryz.f4 Go.Proofs.YtfklpkgdobdbpaaGreat.Rows.cutRefusalsRow.domain false) (Go.Proofs.YtfklpkgdobdbpaaGreat.Rows.cutRefusalsSpec.post enc Tryz.prog Tryz.f4 false true false false) := by
  refine returnsInHanded_of_change (C := Tryz.checked) own started (by kernel_rfl) Tryz.func4
    (ChangeSpec.witness6 (enc := enc) (C := Tryz.checked) false ⟨#[], #[.agg #[.int .i64 0, .int .i64 0, .int .i64 0, .int .i64 0, .int .i64 0, .slice none 0 0, .slice none 0 0, .slice none 0 0, .slice none 0 0, .slice none 0 0, .slice none 0 0, .slice none 0 0], .agg #[.int .i64 0, .int .i64 0, .int .i64 0, .int .i64 0, .int .i64 0, .slice none 0 0], .agg #[.string ⟨#[]⟩, .string ⟨#[]⟩, .int .i64 0, .int .i64 0, .int .i64 0, .int .i64 0, .int .i64 0, .int .i64 0]], []⟩ 8 (by kernel_rfl) (by kernel_rfl) (by kernel_rfl) (by kernel_rfl)) ?_
  intro W base args ds gs before hval hW _ _
  refine law_frame (tb := 4) rfl (by rw [Tryz.params4]; exact aBed) (fun ds h => ?_) (by kernel_rfl) Tryz.underlying4 laidOut (by rw [Tryz.params4]; kernel_rfl) (frameCutRefusals) W base args ds gs before hval hW
  rw [Tryz.params4] at h
  match ds, h with
  | [d0, d1, d2], _ => rfl

theorem closed4 : joinedFacts Tryz.prog 4 Tryz.f4 Go.Proofs.YtfklpkgdobdbpaaGreat.Rows.cutRefusalsSpec Go.Proofs.YtfklpkgdobdbpaaGreat.Rows.cutRefusalsRow = true := by
  unfold joinedFacts
  simp only [Bool.and_eq_true]
  repeat' apply And.intro
  all_goals (as_aux_lemma => kernel_rfl)

theorem over4 : Go.Proofs.YtfklpkgdobdbpaaGreat.Rows.cutRefusalsRow.holds Go.Proofs.YtfklpkgdobdbpaaGreat.Tryz.pinned (OpenSpec.ofChange Go.Proofs.YtfklpkgdobdbpaaGreat.Rows.cutRefusalsSpec) :=
  OpenClaim.holds_of_wide 4 Tryz.f4 rfl rfl rfl rfl rfl rfl rfl ⟨rfl, rfl, rfl, rfl, rfl⟩ rfl rfl rfl rfl rfl (by as_aux_lemma => kernel_rfl) Tryz.func4 closed4
    (of_decide_eq_true (by as_aux_lemma => kernel_rfl)) (by unfold Func.isWrapper; first | (rw [if_pos (by decide +kernel)]; as_aux_lemma => kernel_rfl) | (rw [if_neg (by decide +kernel)]; exact ⟨rfl, rfl⟩))
    (fun os started H enc _ => lifted4 os started H enc)
end Go.Pv.Soil
namespace Go.Proofs.YtfklpkgdobdbpaaGreat
theorem cutRefusals_holds : Rows.CutRefusalsSaid := Go.Pv.Soil.over4
end Go.Proofs.YtfklpkgdobdbpaaGreat

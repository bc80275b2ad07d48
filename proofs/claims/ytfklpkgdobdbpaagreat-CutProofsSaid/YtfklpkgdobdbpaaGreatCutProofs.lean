import Derived.Test.YtfklpkgdobdbpaaGreatRows
import Derived.JoinedOf
import Derived.Test.YtfklpkgdobdbpaaGreatCCF
/- Part of the proofs over YtfklpkgdobdbpaaGreat: LCCutProofs. -/
set_option linter.unusedVariables false
set_option linter.unusedSimpArgs false
set_option linter.unnecessarySimpa false
open Go Go.Proofs Go.Pv
/- The law CutProofs: for every input the call returns true and the arguments read as before. No conditions. -/
set_option maxHeartbeats 400000000
set_option maxRecDepth 100000
set_option linter.unusedVariables false
namespace Go.Pv.Soil

theorem frameCutProofs (x : Site × List Cut × (List (Int × List Int))) (hx : Wide x.1 ∧ x.2.1.length ≤ 9223372036854775807 ∧ ((x.2.2.length ≤ 9223372036854775807 ∧ ∀ b ∈ x.2.2, b.2.length ≤ 9223372036854775807))) :
    Contract Tryz.prog 10 [.agg (encSite x.1), .sl (x.2.1.map encCut), .sl (x.2.2.map encBlk)] (.ret (.bool true)) := law_proofs x.1 hx.1 x.2.1 hx.2.1 x.2.2 hx.2.2
theorem lifted10 (os : Os) (started : os.Started) (H : Type) (enc : TypeId × Value → H) :
    ReturnsInHanded {} Tryz.checked os 10 .any (Go.Proofs.YtfklpkgdobdbpaaGreat.Rows.cutProofsSpec.pre6 enc Tryz.prog Tryz.f10 Go.Proofs.YtfklpkgdobdbpaaGreat.Rows.cutProofsRow.domain false) (Go.Proofs.YtfklpkgdobdbpaaGreat.Rows.cutProofsSpec.post enc Tryz.prog Tryz.f10 false true false false) := by
  refine returnsInHanded_of_change (C := Tryz.checked) own started (by kernel_rfl) Tryz.func10
    (ChangeSpec.witness6 (enc := enc) (C := Tryz.checked) false ⟨#[], #[.agg #[.int .i64 0, .int .i64 0, .int .i64 0, .int .i64 0, .int .i64 0, .slice none 0 0, .slice none 0 0, .slice none 0 0, .slice none 0 0, .slice none 0 0, .slice none 0 0, .slice none 0 0], .slice none 0 0, .slice none 0 0], []⟩ 8 (by kernel_rfl) (by kernel_rfl) (by kernel_rfl) (by kernel_rfl)) ?_
  intro W base args ds gs before hval hW _ _
  refine law_frame (tb := 4) rfl (by rw [Tryz.params10]; exact aProofs) (fun ds h => ?_) (by kernel_rfl) Tryz.underlying4 laidOut (by rw [Tryz.params10]; kernel_rfl) (frameCutProofs) W base args ds gs before hval hW
  rw [Tryz.params10] at h
  match ds, h with
  | [d0, d1, d2], _ => rfl

theorem closed10 : joinedFacts Tryz.prog 10 Tryz.f10 Go.Proofs.YtfklpkgdobdbpaaGreat.Rows.cutProofsSpec Go.Proofs.YtfklpkgdobdbpaaGreat.Rows.cutProofsRow = true := by
  unfold joinedFacts
  simp only [Bool.and_eq_true]
  repeat' apply And.intro
  all_goals (as_aux_lemma => kernel_rfl)

theorem over10 : Go.Proofs.YtfklpkgdobdbpaaGreat.Rows.cutProofsRow.holds Go.Proofs.YtfklpkgdobdbpaaGreat.Tryz.pinned (OpenSpec.ofChange Go.Proofs.YtfklpkgdobdbpaaGreat.Rows.cutProofsSpec) :=
  OpenClaim.holds_of_wide 10 Tryz.f10 rfl rfl rfl rfl rfl rfl rfl ⟨rfl, rfl, rfl, rfl, rfl⟩ rfl rfl rfl rfl rfl (by as_aux_lemma => kernel_rfl) Tryz.func10 closed10
    (of_decide_eq_true (by as_aux_lemma => kernel_rfl)) (by unfold Func.isWrapper; first | (rw [if_pos (by decide +kernel)]; as_aux_lemma => kernel_rfl) | (rw [if_neg (by decide +kernel)]; exact ⟨rfl, rfl⟩))
    (fun os started H enc _ => lifted10 os started H enc)
end Go.Pv.Soil
namespace Go.Proofs.YtfklpkgdobdbpaaGreat
theorem cutProofs_holds : Rows.CutProofsSaid := Go.Pv.Soil.over10
end Go.Proofs.YtfklpkgdobdbpaaGreat

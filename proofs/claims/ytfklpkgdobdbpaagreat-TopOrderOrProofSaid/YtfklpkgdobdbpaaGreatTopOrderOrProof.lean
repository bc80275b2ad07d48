import Derived.Test.YtfklpkgdobdbpaaGreatRows
import Derived.JoinedOf
import Derived.Test.YtfklpkgdobdbpaaGreatTE
/- Part of the proofs over YtfklpkgdobdbpaaGreat: LCTopOrderOrProof. -/
set_option linter.unusedVariables false
set_option linter.unusedSimpArgs false
set_option linter.unnecessarySimpa false
open Go Go.Proofs Go.Pv
/- The law TopOrderOrProof: for every input the call returns true and the arguments read as before. No conditions. -/
set_option maxHeartbeats 400000000
set_option maxRecDepth 100000
set_option linter.unusedVariables false
namespace Go.Pv.Soil

theorem frameTopOrderOrProof (x : Site × List Cut × Int) (hx : Wide x.1 ∧ x.2.1.length ≤ 9223372036854775807 ∧ I64 x.2.2) :
    Contract Tryz.prog 18 [.agg (encSite x.1), .sl (x.2.1.map encCut), .int .i64 x.2.2] (.ret (.bool true)) := law_either x.1 hx.1 x.2.1 hx.2.1 x.2.2 hx.2.2
theorem lifted18 (os : Os) (started : os.Started) (H : Type) (enc : TypeId × Value → H) :
    ReturnsInHanded {} Tryz.checked os 18 .any (Go.Proofs.YtfklpkgdobdbpaaGreat.Rows.topOrderOrProofSpec.pre6 enc Tryz.prog Tryz.f18 Go.Proofs.YtfklpkgdobdbpaaGreat.Rows.topOrderOrProofRow.domain false) (Go.Proofs.YtfklpkgdobdbpaaGreat.Rows.topOrderOrProofSpec.post enc Tryz.prog Tryz.f18 false true false false) := by
  refine returnsInHanded_of_change (C := Tryz.checked) own started (by kernel_rfl) Tryz.func18
    (ChangeSpec.witness6 (enc := enc) (C := Tryz.checked) false ⟨#[], #[.agg #[.int .i64 0, .int .i64 0, .int .i64 0, .int .i64 0, .int .i64 0, .slice none 0 0, .slice none 0 0, .slice none 0 0, .slice none 0 0, .slice none 0 0, .slice none 0 0, .slice none 0 0], .slice none 0 0, .int .i64 0], []⟩ 8 (by kernel_rfl) (by kernel_rfl) (by kernel_rfl) (by kernel_rfl)) ?_
  intro W base args ds gs before hval hW _ _
  refine law_frame (tb := 4) rfl (by rw [Tryz.params18]; exact aPlan) (fun ds h => ?_) (by kernel_rfl) Tryz.underlying4 laidOut (by rw [Tryz.params18]; kernel_rfl) (frameTopOrderOrProof) W base args ds gs before hval hW
  rw [Tryz.params18] at h
  match ds, h with
  | [d0, d1, d2], _ => rfl

theorem closed18 : joinedFacts Tryz.prog 18 Tryz.f18 Go.Proofs.YtfklpkgdobdbpaaGreat.Rows.topOrderOrProofSpec Go.Proofs.YtfklpkgdobdbpaaGreat.Rows.topOrderOrProofRow = true := by
  unfold joinedFacts
  simp only [Bool.and_eq_true]
  repeat' apply And.intro
  all_goals (as_aux_lemma => kernel_rfl)

theorem over18 : Go.Proofs.YtfklpkgdobdbpaaGreat.Rows.topOrderOrProofRow.holds Go.Proofs.YtfklpkgdobdbpaaGreat.Tryz.pinned (OpenSpec.ofChange Go.Proofs.YtfklpkgdobdbpaaGreat.Rows.topOrderOrProofSpec) :=
  OpenClaim.holds_of_wide 18 Tryz.f18 rfl rfl rfl rfl rfl rfl rfl ⟨rfl, rfl, rfl, rfl, rfl⟩ rfl rfl rfl rfl rfl (by as_aux_lemma => kernel_rfl) Tryz.func18 closed18
    (of_decide_eq_true (by as_aux_lemma => kernel_rfl)) (by unfold Func.isWrapper; first | (rw [if_pos (by decide +kernel)]; as_aux_lemma => kernel_rfl) | (rw [if_neg (by decide +kernel)]; exact ⟨rfl, rfl⟩))
    (fun os started H enc _ => lifted18 os started H enc)
end Go.Pv.Soil
namespace Go.Proofs.YtfklpkgdobdbpaaGreat
theorem topOrderOrProof_holds : Rows.TopOrderOrProofSaid := Go.Pv.Soil.over18
end Go.Proofs.YtfklpkgdobdbpaaGreat

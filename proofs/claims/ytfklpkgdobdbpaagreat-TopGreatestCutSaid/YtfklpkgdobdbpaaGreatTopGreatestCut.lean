import Derived.Test.YtfklpkgdobdbpaaGreatRows
import Derived.JoinedOf
import Derived.Test.YtfklpkgdobdbpaaGreatCCC
/- Part of the proofs over YtfklpkgdobdbpaaGreat: LCTopGreatestCut. -/
set_option linter.unusedVariables false
set_option linter.unusedSimpArgs false
set_option linter.unnecessarySimpa false
open Go Go.Proofs Go.Pv
/- The law TopGreatestCut: for every input the call returns true and the arguments read as before. No conditions. -/
set_option maxHeartbeats 400000000
set_option maxRecDepth 100000
set_option linter.unusedVariables false
namespace Go.Pv.Soil

theorem frameTopGreatestCut (x : Site × Cut) (hx : Wide x.1 ∧ True) :
    Contract Tryz.prog 17 [.agg (encSite x.1), .agg (encCut x.2)] (.ret (.bool true)) := law_greatest x.1 hx.1 x.2
theorem lifted17 (os : Os) (started : os.Started) (H : Type) (enc : TypeId × Value → H) :
    ReturnsInHanded {} Tryz.checked os 17 .any (Go.Proofs.YtfklpkgdobdbpaaGreat.Rows.topGreatestCutSpec.pre6 enc Tryz.prog Tryz.f17 Go.Proofs.YtfklpkgdobdbpaaGreat.Rows.topGreatestCutRow.domain false) (Go.Proofs.YtfklpkgdobdbpaaGreat.Rows.topGreatestCutSpec.post enc Tryz.prog Tryz.f17 false true false false) := by
  refine returnsInHanded_of_change (C := Tryz.checked) own started (by kernel_rfl) Tryz.func17
    (ChangeSpec.witness6 (enc := enc) (C := Tryz.checked) false ⟨#[], #[.agg #[.int .i64 0, .int .i64 0, .int .i64 0, .int .i64 0, .int .i64 0, .slice none 0 0, .slice none 0 0, .slice none 0 0, .slice none 0 0, .slice none 0 0, .slice none 0 0, .slice none 0 0], .agg #[.string ⟨#[]⟩, .string ⟨#[]⟩, .int .i64 0, .int .i64 0, .int .i64 0, .int .i64 0, .int .i64 0, .int .i64 0]], []⟩ 8 (by kernel_rfl) (by kernel_rfl) (by kernel_rfl) (by kernel_rfl)) ?_
  intro W base args ds gs before hval hW _ _
  refine law_frame (tb := 4) rfl (by rw [Tryz.params17]; exact aOne) (fun ds h => ?_) (by kernel_rfl) Tryz.underlying4 laidOut (by rw [Tryz.params17]; kernel_rfl) (frameTopGreatestCut) W base args ds gs before hval hW
  rw [Tryz.params17] at h
  match ds, h with
  | [d0, d1], _ => rfl

theorem closed17 : joinedFacts Tryz.prog 17 Tryz.f17 Go.Proofs.YtfklpkgdobdbpaaGreat.Rows.topGreatestCutSpec Go.Proofs.YtfklpkgdobdbpaaGreat.Rows.topGreatestCutRow = true := by
  unfold joinedFacts
  simp only [Bool.and_eq_true]
  repeat' apply And.intro
  all_goals (as_aux_lemma => kernel_rfl)

theorem over17 : Go.Proofs.YtfklpkgdobdbpaaGreat.Rows.topGreatestCutRow.holds Go.Proofs.YtfklpkgdobdbpaaGreat.Tryz.pinned (OpenSpec.ofChange Go.Proofs.YtfklpkgdobdbpaaGreat.Rows.topGreatestCutSpec) :=
  OpenClaim.holds_of_wide 17 Tryz.f17 rfl rfl rfl rfl rfl rfl rfl ⟨rfl, rfl, rfl, rfl, rfl⟩ rfl rfl rfl rfl rfl (by as_aux_lemma => kernel_rfl) Tryz.func17 closed17
    (of_decide_eq_true (by as_aux_lemma => kernel_rfl)) (by unfold Func.isWrapper; first | (rw [if_pos (by decide +kernel)]; as_aux_lemma => kernel_rfl) | (rw [if_neg (by decide +kernel)]; exact ⟨rfl, rfl⟩))
    (fun os started H enc _ => lifted17 os started H enc)
end Go.Pv.Soil
namespace Go.Proofs.YtfklpkgdobdbpaaGreat
theorem topGreatestCut_holds : Rows.TopGreatestCutSaid := Go.Pv.Soil.over17
end Go.Proofs.YtfklpkgdobdbpaaGreat

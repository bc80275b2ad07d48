import Derived.Test.YtfklpkgdobdbpaaGreatRows
import Derived.JoinedOf
import Derived.Test.YtfklpkgdobdbpaaGreatCBX
/- Part of the proofs over YtfklpkgdobdbpaaGreat: LCCutSites. -/
set_option linter.unusedVariables false
set_option linter.unusedSimpArgs false
set_option linter.unnecessarySimpa false
open Go Go.Proofs Go.Pv
/- The law CutSites: for every input the call returns true and the arguments read as before. No conditions. -/
set_option maxHeartbeats 400000000
set_option maxRecDepth 100000
set_option linter.unusedVariables false
namespace Go.Pv.Soil

theorem frameCutSites (x : Site × Dred × List Cut) (hx : Wide x.1 ∧ x.2.1.outs.length ≤ 9223372036854775807 ∧ x.2.2.length ≤ 9223372036854775807) :
    Contract Tryz.prog 3 [.agg (encSite x.1), .agg (encDred x.2.1), .sl (x.2.2.map encCut)] (.ret (.bool true)) := law_sites x.1 hx.1 x.2.1 hx.2.1 x.2.2 hx.2.2
theorem lifted3 (os : Os) (started : os.Started) (H : Type) (enc : TypeId × Value → H) :
    ReturnsInHanded {} Tryz.checked os 3 .any (Go.Proofs.YtfklpkgdobdbpaaGreat.Rows.cutSitesSpec.pre6 enc Tryz.prog Tryz.f3 Go.Proofs.YtfklpkgdobdbpaaGreat.Rows.cutSitesRow.domain false) (Go.Proofs.YtfklpkgdobdbpaaGreat.Rows.cutSitesSpec.post enc Tryz.prog Tryz.f3 false true false false) := by
  refine returnsInHanded_of_change (C := Tryz.checked) own started (by kernel_rfl) Tryz.func3
    (ChangeSpec.witness6 (enc := enc) (C := Tryz.checked) false ⟨#[], #[.agg #[.int .i64 0, .int .i64 0, .int .i64 0, .int .i64 0, .int .i64 0, .slice none 0 0, .slice none 0 0, .slice none 0 0, .slice none 0 0, .slice none 0 0, .slice none 0 0, .slice none 0 0], .agg #[.string ⟨#[]⟩, .int .i64 0, .int .i64 0, .int .i64 0, .int .i64 0, .int .i64 0, .int .i64 0, .slice none 0 0], .slice none 0 0], []⟩ 8 (by kernel_rfl) (by kernel_rfl) (by kernel_rfl) (by kernel_rfl)) ?_
  intro W base args ds gs before hval hW _ _
  refine law_frame (tb := 4) rfl (by rw [Tryz.params3]; exact aSites) (fun ds h => ?_) (by kernel_rfl) Tryz.underlying4 laidOut (by rw [Tryz.params3]; kernel_rfl) (frameCutSites) W base args ds gs before hval hW
  rw [Tryz.params3] at h
  match ds, h with
  | [d0, d1, d2], _ => rfl

theorem closed3 : joinedFacts Tryz.prog 3 Tryz.f3 Go.Proofs.YtfklpkgdobdbpaaGreat.Rows.cutSitesSpec Go.Proofs.YtfklpkgdobdbpaaGreat.Rows.cutSitesRow = true := by
  unfold joinedFacts
  simp only [Bool.and_eq_true]
  repeat' apply And.intro
  all_goals (as_aux_lemma => kernel_rfl)

theorem over3 : Go.Proofs.YtfklpkgdobdbpaaGreat.Rows.cutSitesRow.holds Go.Proofs.YtfklpkgdobdbpaaGreat.Tryz.pinned (OpenSpec.ofChange Go.Proofs.YtfklpkgdobdbpaaGreat.Rows.cutSitesSpec) :=
  OpenClaim.holds_of_wide 3 Tryz.f3 rfl rfl rfl rfl rfl rfl rfl ⟨rfl, rfl, rfl, rfl, rfl⟩ rfl rfl rfl rfl rfl (by as_aux_lemma => kernel_rfl) Tryz.func3 closed3
    (of_decide_eq_true (by as_aux_lemma => kernel_rfl)) (by unfold Func.isWrapper; first | (rw [if_pos (by decide +kernel)]; as_aux_lemma => kernel_rfl) | (rw [if_neg (by decide +kernel)]; exact ⟨rfl, rfl⟩))
    (fun os started H enc _ => lifted3 os started H enc)
end Go.Pv.Soil
namespace Go.Proofs.YtfklpkgdobdbpaaGreat
theorem cutSites_holds : Rows.CutSitesSaid := Go.Pv.Soil.over3
end Go.Proofs.YtfklpkgdobdbpaaGreat

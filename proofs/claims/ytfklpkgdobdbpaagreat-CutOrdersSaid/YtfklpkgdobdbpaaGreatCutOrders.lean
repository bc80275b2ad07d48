import Derived.Test.YtfklpkgdobdbpaaGreatRows
import Derived.JoinedOf
import Derived.Test.YtfklpkgdobdbpaaGreatOC
/- Part of the proofs over YtfklpkgdobdbpaaGreat: LCCutOrders. -/
set_option linter.unusedVariables false
set_option linter.unusedSimpArgs false
set_option linter.unnecessarySimpa false
open Go Go.Proofs Go.Pv
set_option maxHeartbeats 8000000
set_option maxRecDepth 100000
set_option linter.unusedVariables false
namespace Go.Pv.Soil
theorem aCutsL:ReadsA Tryz.prog [34,38] (fun x:Site×List Cut=>Wide x.1∧x.2.length≤9223372036854775807)
  (fun x=>[.agg (encSite x.1),.sl (x.2.map encCut)]):=
 (qbf Tryz.underlying34 qyO (g:=fun c=>.agg (encSite c)) (.inr ⟨rfl,fun _=>rfl⟩) (qbf Tryz.underlying38 qDP (g:=fun c=>.sl (c.map encCut)) (.inl ⟨rfl,fun _=>rfl⟩) qfk)).map
  (fun x=>(x.1,x.2.1)) (fun _ _=>rfl) (fun _ h=>⟨(h.1),(lm h.2.1.1)⟩)
end Go.Pv.Soil

open Go Go.Proofs Go.Pv
/- The law CutOrders: for every input the call returns true and the arguments read as before. No conditions. -/
set_option maxHeartbeats 400000000
set_option maxRecDepth 100000
set_option linter.unusedVariables false
namespace Go.Pv.Soil

theorem frameCutOrders (x : Site × List Cut) (hx : Wide x.1 ∧ x.2.length ≤ 9223372036854775807) :
    Contract Tryz.prog 9 [.agg (encSite x.1), .sl (x.2.map encCut)] (.ret (.bool true)) := law_orders x.1 hx.1 x.2 hx.2
theorem lifted9 (os : Os) (started : os.Started) (H : Type) (enc : TypeId × Value → H) :
    ReturnsInHanded {} Tryz.checked os 9 .any (Go.Proofs.YtfklpkgdobdbpaaGreat.Rows.cutOrdersSpec.pre6 enc Tryz.prog Tryz.f9 Go.Proofs.YtfklpkgdobdbpaaGreat.Rows.cutOrdersRow.domain false) (Go.Proofs.YtfklpkgdobdbpaaGreat.Rows.cutOrdersSpec.post enc Tryz.prog Tryz.f9 false true false false) := by
  refine returnsInHanded_of_change (C := Tryz.checked) own started (by kernel_rfl) Tryz.func9
    (ChangeSpec.witness6 (enc := enc) (C := Tryz.checked) false ⟨#[], #[.agg #[.int .i64 0, .int .i64 0, .int .i64 0, .int .i64 0, .int .i64 0, .slice none 0 0, .slice none 0 0, .slice none 0 0, .slice none 0 0, .slice none 0 0, .slice none 0 0, .slice none 0 0], .slice none 0 0], []⟩ 8 (by kernel_rfl) (by kernel_rfl) (by kernel_rfl) (by kernel_rfl)) ?_
  intro W base args ds gs before hval hW _ _
  refine law_frame (tb := 4) rfl (by rw [Tryz.params9]; exact aCutsL) (fun ds h => ?_) (by kernel_rfl) Tryz.underlying4 laidOut (by rw [Tryz.params9]; kernel_rfl) (frameCutOrders) W base args ds gs before hval hW
  rw [Tryz.params9] at h
  match ds, h with
  | [d0, d1], _ => rfl

theorem closed9 : joinedFacts Tryz.prog 9 Tryz.f9 Go.Proofs.YtfklpkgdobdbpaaGreat.Rows.cutOrdersSpec Go.Proofs.YtfklpkgdobdbpaaGreat.Rows.cutOrdersRow = true := by
  unfold joinedFacts
  simp only [Bool.and_eq_true]
  repeat' apply And.intro
  all_goals (as_aux_lemma => kernel_rfl)

theorem over9 : Go.Proofs.YtfklpkgdobdbpaaGreat.Rows.cutOrdersRow.holds Go.Proofs.YtfklpkgdobdbpaaGreat.Tryz.pinned (OpenSpec.ofChange Go.Proofs.YtfklpkgdobdbpaaGreat.Rows.cutOrdersSpec) :=
  OpenClaim.holds_of_wide 9 Tryz.f9 rfl rfl rfl rfl rfl rfl rfl ⟨rfl, rfl, rfl, rfl, rfl⟩ rfl rfl rfl rfl rfl (by as_aux_lemma => kernel_rfl) Tryz.func9 closed9
    (of_decide_eq_true (by as_aux_lemma => kernel_rfl)) (by unfold Func.isWrapper; first | (rw [if_pos (by decide +kernel)]; as_aux_lemma => kernel_rfl) | (rw [if_neg (by decide +kernel)]; exact ⟨rfl, rfl⟩))
    (fun os started H enc _ => lifted9 os started H enc)
end Go.Pv.Soil
namespace Go.Proofs.YtfklpkgdobdbpaaGreat
theorem cutOrders_holds : Rows.CutOrdersSaid := Go.Pv.Soil.over9
end Go.Proofs.YtfklpkgdobdbpaaGreat

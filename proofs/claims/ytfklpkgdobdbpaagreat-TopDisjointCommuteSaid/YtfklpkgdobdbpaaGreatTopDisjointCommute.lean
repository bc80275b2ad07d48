import Derived.Test.YtfklpkgdobdbpaaGreatRows
import Derived.JoinedOf
import Derived.Test.YtfklpkgdobdbpaaGreatCCG
/- Part of the proofs over YtfklpkgdobdbpaaGreat: LCTopDisjointCommute. -/
set_option linter.unusedVariables false
set_option linter.unusedSimpArgs false
set_option linter.unnecessarySimpa false
open Go Go.Proofs Go.Pv
set_option maxHeartbeats 8000000
set_option maxRecDepth 100000
set_option linter.unusedVariables false
namespace Go.Pv.Soil
theorem aTwo:ReadsA Tryz.prog [34,51,51] (fun x:Site×Cut×Cut=>Wide x.1∧True∧True)
  (fun x=>[.agg (encSite x.1),.agg (encCut x.2.1),.agg (encCut x.2.2)]):=
 (qdl Tryz.underlying34 qDM (g:=fun c=>.agg (encSite c)) (.inr ⟨rfl,fun _=>rfl⟩) (qdl Tryz.underlying51 qIo (g:=fun c=>.agg (encCut c)) (.inr ⟨rfl,fun _=>rfl⟩) (qdl Tryz.underlying51 qIo (g:=fun c=>.agg (encCut c)) (.inr ⟨rfl,fun _=>rfl⟩) qlQ))).map
  (fun x=>(x.1,x.2.1,x.2.2.1)) (fun _ _=>rfl) (fun _ h=>⟨(h.1),(trivial),(trivial)⟩)
end Go.Pv.Soil

open Go Go.Proofs Go.Pv
/- The law TopDisjointCommute: for every input the call returns true and the arguments read as before. No conditions. -/
set_option maxHeartbeats 400000000
set_option maxRecDepth 100000
set_option linter.unusedVariables false
namespace Go.Pv.Soil

theorem frameTopDisjointCommute (x : Site × Cut × Cut) (hx : Wide x.1 ∧ True ∧ True) :
    Contract Tryz.prog 16 [.agg (encSite x.1), .agg (encCut x.2.1), .agg (encCut x.2.2)] (.ret (.bool true)) := law_disjoint x.1 hx.1 x.2.1 x.2.2
theorem lifted16 (os : Os) (started : os.Started) (H : Type) (enc : TypeId × Value → H) :
    ReturnsInHanded {} Tryz.checked os 16 .any (Go.Proofs.YtfklpkgdobdbpaaGreat.Rows.topDisjointCommuteSpec.pre6 enc Tryz.prog Tryz.f16 Go.Proofs.YtfklpkgdobdbpaaGreat.Rows.topDisjointCommuteRow.domain false) (Go.Proofs.YtfklpkgdobdbpaaGreat.Rows.topDisjointCommuteSpec.post enc Tryz.prog Tryz.f16 false true false false) := by
  refine returnsInHanded_of_change (C := Tryz.checked) own started (by kernel_rfl) Tryz.func16
    (ChangeSpec.witness6 (enc := enc) (C := Tryz.checked) false ⟨#[], #[.agg #[.int .i64 0, .int .i64 0, .int .i64 0, .int .i64 0, .int .i64 0, .slice none 0 0, .slice none 0 0, .slice none 0 0, .slice none 0 0, .slice none 0 0, .slice none 0 0, .slice none 0 0], .agg #[.string ⟨#[]⟩, .string ⟨#[]⟩, .int .i64 0, .int .i64 0, .int .i64 0, .int .i64 0, .int .i64 0, .int .i64 0], .agg #[.string ⟨#[]⟩, .string ⟨#[]⟩, .int .i64 0, .int .i64 0, .int .i64 0, .int .i64 0, .int .i64 0, .int .i64 0]], []⟩ 8 (by kernel_rfl) (by kernel_rfl) (by kernel_rfl) (by kernel_rfl)) ?_
  intro W base args ds gs before hval hW _ _
  refine law_frame (tb := 4) rfl (by rw [Tryz.params16]; exact aTwo) (fun ds h => ?_) (by kernel_rfl) Tryz.underlying4 laidOut (by rw [Tryz.params16]; kernel_rfl) (frameTopDisjointCommute) W base args ds gs before hval hW
  rw [Tryz.params16] at h
  match ds, h with
  | [d0, d1, d2], _ => rfl

theorem closed16 : joinedFacts Tryz.prog 16 Tryz.f16 Go.Proofs.YtfklpkgdobdbpaaGreat.Rows.topDisjointCommuteSpec Go.Proofs.YtfklpkgdobdbpaaGreat.Rows.topDisjointCommuteRow = true := by
  unfold joinedFacts
  simp only [Bool.and_eq_true]
  repeat' apply And.intro
  all_goals (as_aux_lemma => kernel_rfl)

theorem over16 : Go.Proofs.YtfklpkgdobdbpaaGreat.Rows.topDisjointCommuteRow.holds Go.Proofs.YtfklpkgdobdbpaaGreat.Tryz.pinned (OpenSpec.ofChange Go.Proofs.YtfklpkgdobdbpaaGreat.Rows.topDisjointCommuteSpec) :=
  OpenClaim.holds_of_wide 16 Tryz.f16 rfl rfl rfl rfl rfl rfl rfl ⟨rfl, rfl, rfl, rfl, rfl⟩ rfl rfl rfl rfl rfl (by as_aux_lemma => kernel_rfl) Tryz.func16 closed16
    (of_decide_eq_true (by as_aux_lemma => kernel_rfl)) (by unfold Func.isWrapper; first | (rw [if_pos (by decide +kernel)]; as_aux_lemma => kernel_rfl) | (rw [if_neg (by decide +kernel)]; exact ⟨rfl, rfl⟩))
    (fun os started H enc _ => lifted16 os started H enc)
end Go.Pv.Soil
namespace Go.Proofs.YtfklpkgdobdbpaaGreat
theorem topDisjointCommute_holds : Rows.TopDisjointCommuteSaid := Go.Pv.Soil.over16
end Go.Proofs.YtfklpkgdobdbpaaGreat

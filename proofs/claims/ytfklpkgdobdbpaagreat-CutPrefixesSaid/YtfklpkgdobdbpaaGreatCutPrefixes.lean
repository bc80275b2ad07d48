import Derived.Test.YtfklpkgdobdbpaaGreatRows
import Derived.JoinedOf
import Derived.Test.YtfklpkgdobdbpaaGreatCCC
/- Part of the proofs over YtfklpkgdobdbpaaGreat: LCCutPrefixes. -/
set_option linter.unusedVariables false
set_option linter.unusedSimpArgs false
set_option linter.unnecessarySimpa false
open Go Go.Proofs Go.Pv
set_option maxHeartbeats 8000000
set_option maxRecDepth 100000
set_option linter.unusedVariables false
namespace Go.Pv.Soil
theorem rU8:Reads Tryz.prog 5 (fun n:Int=>0≤n∧n≤255) (fun n=>[.int .u8 n]):=
 (quD (k:=.u8) Tryz.underlying5 (by kernel_rfl)).map (fun n=>n) (fun _ _=>rfl) (fun _ h=>by simp[Lit.wf,IntKind.min,IntKind.max,IntKind.bits,IntKind.signed]at h;omega) fun _ _=>by kernel_rfl
end Go.Pv.Soil
open Go Go.Proofs Go.Pv
set_option maxHeartbeats 8000000
set_option maxRecDepth 100000
set_option linter.unusedVariables false
namespace Go.Pv.Soil
theorem aPref:ReadsA Tryz.prog [34,38,5] (fun x:Site×List Cut×Int=>Wide x.1∧x.2.1.length≤9223372036854775807∧((0≤x.2.2∧x.2.2≤255)))
  (fun x=>[.agg (encSite x.1),.sl (x.2.1.map encCut),.int .u8 x.2.2]):=
 (qdl Tryz.underlying34 qDM (g:=fun c=>.agg (encSite c)) (.inr ⟨rfl,fun _=>rfl⟩) (qdl Tryz.underlying38 qGe (g:=fun c=>.sl (c.map encCut)) (.inl ⟨rfl,fun _=>rfl⟩) (qdl Tryz.underlying5 rU8 (g:=fun c=>.int .u8 c) (.inl ⟨rfl,fun _=>rfl⟩) qlQ))).map
  (fun x=>(x.1,x.2.1,x.2.2.1)) (fun _ _=>rfl) (fun _ h=>⟨(h.1),(lm h.2.1.1),(h.2.2.1)⟩)
end Go.Pv.Soil

open Go Go.Proofs Go.Pv
/- The law CutPrefixes: for every input the call returns true and the arguments read as before. No conditions. -/
set_option maxHeartbeats 400000000
set_option maxRecDepth 100000
set_option linter.unusedVariables false
namespace Go.Pv.Soil

theorem frameCutPrefixes (x : Site × List Cut × Int) (hx : Wide x.1 ∧ x.2.1.length ≤ 9223372036854775807 ∧ ((0 ≤ x.2.2 ∧ x.2.2 ≤ 255))) :
    Contract Tryz.prog 14 [.agg (encSite x.1), .sl (x.2.1.map encCut), .int .u8 x.2.2] (.ret (.bool true)) := law_prefixes x.1 hx.1 x.2.1 hx.2.1 x.2.2 hx.2.2
theorem lifted14 (os : Os) (started : os.Started) (H : Type) (enc : TypeId × Value → H) :
    ReturnsInHanded {} Tryz.checked os 14 .any (Go.Proofs.YtfklpkgdobdbpaaGreat.Rows.cutPrefixesSpec.pre6 enc Tryz.prog Tryz.f14 Go.Proofs.YtfklpkgdobdbpaaGreat.Rows.cutPrefixesRow.domain false) (Go.Proofs.YtfklpkgdobdbpaaGreat.Rows.cutPrefixesSpec.post enc Tryz.prog Tryz.f14 false true false false) := by
  refine returnsInHanded_of_change (C := Tryz.checked) own started (by kernel_rfl) Tryz.func14
    (ChangeSpec.witness6 (enc := enc) (C := Tryz.checked) false ⟨#[], #[.agg #[.int .i64 0, .int .i64 0, .int .i64 0, .int .i64 0, .int .i64 0, .slice none 0 0, .slice none 0 0, .slice none 0 0, .slice none 0 0, .slice none 0 0, .slice none 0 0, .slice none 0 0], .slice none 0 0, .int .u8 0], []⟩ 8 (by kernel_rfl) (by kernel_rfl) (by kernel_rfl) (by kernel_rfl)) ?_
  intro W base args ds gs before hval hW _ _
  refine law_frame (tb := 4) rfl (by rw [Tryz.params14]; exact aPref) (fun ds h => ?_) (by kernel_rfl) Tryz.underlying4 laidOut (by rw [Tryz.params14]; kernel_rfl) (frameCutPrefixes) W base args ds gs before hval hW
  rw [Tryz.params14] at h
  match ds, h with
  | [d0, d1, d2], _ => rfl

theorem closed14 : joinedFacts Tryz.prog 14 Tryz.f14 Go.Proofs.YtfklpkgdobdbpaaGreat.Rows.cutPrefixesSpec Go.Proofs.YtfklpkgdobdbpaaGreat.Rows.cutPrefixesRow = true := by
  unfold joinedFacts
  simp only [Bool.and_eq_true]
  repeat' apply And.intro
  all_goals (as_aux_lemma => kernel_rfl)

theorem over14 : Go.Proofs.YtfklpkgdobdbpaaGreat.Rows.cutPrefixesRow.holds Go.Proofs.YtfklpkgdobdbpaaGreat.Tryz.pinned (OpenSpec.ofChange Go.Proofs.YtfklpkgdobdbpaaGreat.Rows.cutPrefixesSpec) :=
  OpenClaim.holds_of_wide 14 Tryz.f14 rfl rfl rfl rfl rfl rfl rfl ⟨rfl, rfl, rfl, rfl, rfl⟩ rfl rfl rfl rfl rfl (by as_aux_lemma => kernel_rfl) Tryz.func14 closed14
    (of_decide_eq_true (by as_aux_lemma => kernel_rfl)) (by unfold Func.isWrapper; first | (rw [if_pos (by decide +kernel)]; as_aux_lemma => kernel_rfl) | (rw [if_neg (by decide +kernel)]; exact ⟨rfl, rfl⟩))
    (fun os started H enc _ => lifted14 os started H enc)
end Go.Pv.Soil
namespace Go.Proofs.YtfklpkgdobdbpaaGreat
theorem cutPrefixes_holds : Rows.CutPrefixesSaid := Go.Pv.Soil.over14
end Go.Proofs.YtfklpkgdobdbpaaGreat

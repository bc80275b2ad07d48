import Derived.Test.YtfklpkgdobdbpaaGreatRows
import Derived.JoinedOf
import Derived.Test.YtfklpkgdobdbpaaGreatCCI
/- Part of the proofs over YtfklpkgdobdbpaaGreat: LCCutDeeper. -/
set_option linter.unusedVariables false
set_option linter.unusedSimpArgs false
set_option linter.unnecessarySimpa false
open Go Go.Proofs Go.Pv
set_option maxHeartbeats 8000000
set_option maxRecDepth 100000
set_option linter.unusedVariables false
namespace Go.Pv.Soil
theorem rU8:Reads Tryz.prog 5 (fun n:Int=>0≤n∧n≤255) (fun n=>[.int .u8 n]):=
 (quD (k:=.u8) Tryz.underlying5 (by kernel_rfl)).map (fun n=>n) (fun _ _=>rfl) (fun _ h=>by simp[Lit.wf,IntKind.min,IntKind.max,IntKind.bits,IntKind.signed]at h;omega) fun _ _=>by kernel_rfl
end Go.Pv.Soil
open Go Go.Proofs Go.Pv
set_option maxHeartbeats 8000000
set_option maxRecDepth 100000
set_option linter.unusedVariables false
namespace Go.Pv.Soil
theorem qMO:Reads Tryz.prog 60 (fun x:Int×Int=>(0≤x.1∧x.1≤255)∧(0≤x.2∧x.2≤255)) (fun x=>[.int .u8 x.1,.int .u8 x.2]):=
 (qLb (n:=2) (k:=1) Tryz.underlying60 rU8 (by kernel_rfl) (by kernel_rfl)).map (fun l=>(l.getD 0 0,l.getD 1 0))
  (fun l h=>by match l,h.1 with|[a,b],_=>rfl) (fun l h=>by match l,h with|[a,b],h=>exact⟨h.2 a (by simp),h.2 b (by simp)⟩) fun _ _=>by kernel_rfl
theorem aDeep:ReadsA Tryz.prog [34,51,60] (fun x:Site×Cut×(Int×Int)=>Wide x.1∧True∧(((0≤x.2.2.1∧x.2.2.1≤255)∧(0≤x.2.2.2∧x.2.2.2≤255))))
  (fun x=>[.agg (encSite x.1),.agg (encCut x.2.1),.agg [.int .u8 x.2.2.1,.int .u8 x.2.2.2]]):=
 (qdl Tryz.underlying34 qDM (g:=fun c=>.agg (encSite c)) (.inr ⟨rfl,fun _=>rfl⟩) (qdl Tryz.underlying51 qIo (g:=fun c=>.agg (encCut c)) (.inr ⟨rfl,fun _=>rfl⟩) (qdl Tryz.underlying60 qMO (g:=fun c=>.agg [.int .u8 c.1,.int .u8 c.2]) (.inr ⟨rfl,fun _=>rfl⟩) qlQ))).map
  (fun x=>(x.1,x.2.1,x.2.2.1)) (fun _ _=>rfl) (fun _ h=>⟨(h.1),(trivial),(h.2.2.1)⟩)
end Go.Pv.Soil

open Go Go.Proofs Go.Pv
/- The law CutDeeper: for every input the call returns true and the arguments read as before. No conditions. -/
set_option maxHeartbeats 400000000
set_option maxRecDepth 100000
set_option linter.unusedVariables false
namespace Go.Pv.Soil

theorem frameCutDeeper (x : Site × Cut × (Int × Int)) (hx : Wide x.1 ∧ True ∧ (((0 ≤ x.2.2.1 ∧ x.2.2.1 ≤ 255) ∧ (0 ≤ x.2.2.2 ∧ x.2.2.2 ≤ 255)))) :
    Contract Tryz.prog 5 [.agg (encSite x.1), .agg (encCut x.2.1), .agg [.int .u8 x.2.2.1, .int .u8 x.2.2.2]] (.ret (.bool true)) := law_deeper x.1 hx.1 x.2.1 x.2.2 hx.2.2
theorem lifted5 (os : Os) (started : os.Started) (H : Type) (enc : TypeId × Value → H) :
    ReturnsInHanded {} Tryz.checked os 5 .any (Go.Proofs.YtfklpkgdobdbpaaGreat.Rows.cutDeeperSpec.pre6 enc Tryz.prog Tryz.f5 Go.Proofs.YtfklpkgdobdbpaaGreat.Rows.cutDeeperRow.domain false) (Go.Proofs.YtfklpkgdobdbpaaGreat.Rows.cutDeeperSpec.post enc Tryz.prog Tryz.f5 false true false false) := by
  refine returnsInHanded_of_change (C := Tryz.checked) own started (by kernel_rfl) Tryz.func5
    (ChangeSpec.witness6 (enc := enc) (C := Tryz.checked) false ⟨#[], #[.agg #[.int .i64 0, .int .i64 0, .int .i64 0, .int .i64 0, .int .i64 0, .slice none 0 0, .slice none 0 0, .slice none 0 0, .slice none 0 0, .slice none 0 0, .slice none 0 0, .slice none 0 0], .agg #[.string ⟨#[]⟩, .string ⟨#[]⟩, .int .i64 0, .int .i64 0, .int .i64 0, .int .i64 0, .int .i64 0, .int .i64 0], .agg #[.int .u8 0, .int .u8 0]], []⟩ 8 (by kernel_rfl) (by kernel_rfl) (by kernel_rfl) (by kernel_rfl)) ?_
  intro W base args ds gs before hval hW _ _
  refine law_frame (tb := 4) rfl (by rw [Tryz.params5]; exact aDeep) (fun ds h => ?_) (by kernel_rfl) Tryz.underlying4 laidOut (by rw [Tryz.params5]; kernel_rfl) (frameCutDeeper) W base args ds gs before hval hW
  rw [Tryz.params5] at h
  match ds, h with
  | [d0, d1, d2], _ => rfl

theorem closed5 : joinedFacts Tryz.prog 5 Tryz.f5 Go.Proofs.YtfklpkgdobdbpaaGreat.Rows.cutDeeperSpec Go.Proofs.YtfklpkgdobdbpaaGreat.Rows.cutDeeperRow = true := by
  unfold joinedFacts
  simp only [Bool.and_eq_true]
  repeat' apply And.intro
  all_goals (as_aux_lemma => kernel_rfl)

theorem over5 : Go.Proofs.YtfklpkgdobdbpaaGreat.Rows.cutDeeperRow.holds Go.Proofs.YtfklpkgdobdbpaaGreat.Tryz.pinned (OpenSpec.ofChange Go.Proofs.YtfklpkgdobdbpaaGreat.Rows.cutDeeperSpec) :=
  OpenClaim.holds_of_wide 5 Tryz.f5 rfl rfl rfl rfl rfl rfl rfl ⟨rfl, rfl, rfl, rfl, rfl⟩ rfl rfl rfl rfl rfl (by as_aux_lemma => kernel_rfl) Tryz.func5 closed5
    (of_decide_eq_true (by as_aux_lemma => kernel_rfl)) (by unfold Func.isWrapper; first | (rw [if_pos (by decide +kernel)]; as_aux_lemma => kernel_rfl) | (rw [if_neg (by decide +kernel)]; exact ⟨rfl, rfl⟩))
    (fun os started H enc _ => lifted5 os started H enc)
end Go.Pv.Soil
namespace Go.Proofs.YtfklpkgdobdbpaaGreat
theorem cutDeeper_holds : Rows.CutDeeperSaid := Go.Pv.Soil.over5
end Go.Proofs.YtfklpkgdobdbpaaGreat

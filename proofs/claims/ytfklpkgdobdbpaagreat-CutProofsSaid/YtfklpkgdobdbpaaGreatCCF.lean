import Derived.Test.YtfklpkgdobdbpaaGreatCCD
import Derived.Test.YtfklpkgdobdbpaaGreatCCE
/- Part of the proofs over YtfklpkgdobdbpaaGreat: N87. -/
set_option linter.unusedVariables false
set_option linter.unusedSimpArgs false
set_option linter.unnecessarySimpa false
open Go Go.Proofs Go.Pv
set_option maxHeartbeats 8000000
set_option maxRecDepth 100000
set_option linter.unusedSimpArgs false
set_option linter.unusedVariables false
namespace Go.Pv.Soil
theorem qvA{n:Nat}{R:Nat→Nat→Int}{b:List (Int×List Int)}(h:IsPr n R b):Ord.ordL n R n 0=[]:=by
 have hnn:=qe3 h.z b.length fun j hj _ h0=>h.up j hj h0
 refine Ord.no_order (S:=fun t=>∃j,∃hj:j<b.length,b[j].1=(t:Int)) ⟨0,h.ne,h.z h.ne⟩ ?_ ?_
 ·rintro t k ⟨j,hj,e⟩ hk hx
  have e2:b[j].1.toNat=t:=by omega
  have hc:=h.cl j hj k hk (by rw[e2];exact hx)
  obtain⟨x,hx',h2⟩:=List.any_eq_true.1 hc
  obtain⟨m,hm,rfl⟩:=List.mem_iff_getElem.1 hx'
  refine⟨m,hm,?_⟩
  rw[of_decide_eq_true h2,e,Ord.or_add (Ord.nx_bit hx)]
  exact(Int.natCast_add _ _).symm
 ·rintro⟨j,hj,e⟩
  have:=h.lt j hj
  rw[e]at this
  have hp:=Nat.two_pow_pos n
  generalize 2^n=p at this hp
  omega
theorem law_proofs(s:Site)(hw:Wide s)(l:List Cut)(hl:l.length≤9223372036854775807)(b:List (Int×List Int))(hb:b.length≤9223372036854775807∧∀x∈b,x.2.length≤9223372036854775807):Contract Tryz.prog 10 [.agg (encSite s),.sl (l.map encCut),.sl (b.map encBlk)] (.ret (.bool true)):=by
 have h0:=qoC
 have h1:=qkv s hw
 have h2:Contract Tryz.prog 21 [.sl (l.map encCut),.int .i64 12] (.ret (.bool (qvG l 12))):=qAN l hl 12 (by omega)
 have h3:=qFV l hl
 have hbl:=hb.1
 cases hs:qmv s with
 |false=>
  rw[hs]at h1
  refine zT mix Tryz.func10 Tryz.ntmps10 Tryz.results10 rfl rfl rfl ?_;simp only[qab,Nat.reduceAdd]
  repeat'(first|(with_reducible rfl)|refine zQ ?_|refine zF h0 ?_|refine zF h1 ?_|refine zE ?_|fail)
  all_goals first|rfl|(exfalso;simp at *;done)|trace_state
 |true=>
 rw[hs]at h1
 obtain⟨hz,h16,hd8,_,_,_⟩:=qgZ hw hs
 cases hf:qvG l 12 with
 |false=>
  rw[hf]at h2
  refine zT mix Tryz.func10 Tryz.ntmps10 Tryz.results10 rfl rfl rfl ?_;simp only[qab,Nat.reduceAdd]
  repeat'(first|(with_reducible rfl)|refine zQ ?_|refine zF h0 ?_|refine zF h1 ?_|refine zF h2 ?_|refine zE ?_|fail)
  all_goals first|rfl|(exfalso;simp at *;done)|trace_state
 |true=>
 rw[hf]at h2
 cases hm:qAX l with
 |false=>
  rw[hm]at h3
  refine zT mix Tryz.func10 Tryz.ntmps10 Tryz.results10 rfl rfl rfl ?_;simp only[qab,Nat.reduceAdd]
  repeat'(first|(with_reducible rfl)|refine zQ ?_|refine zF h0 ?_|refine zF h1 ?_|refine zF h2 ?_|refine zF h3 ?_|refine zE ?_|fail)
  all_goals first|rfl|(exfalso;simp at *;done)|trace_state
 |true=>
 rw[hm]at h3
 by_cases hb20:b.length≤20
 rotate_left
 ·refine zT mix Tryz.func10 Tryz.ntmps10 Tryz.results10 rfl rfl rfl ?_;simp only[qab,Nat.reduceAdd]
  repeat'(first|(with_reducible rfl)|refine zQ ?_|refine zF h0 ?_|refine zF h1 ?_|refine zF h2 ?_|refine zF h3 ?_|(refine zC ?_ ?_<;>first|intro h|simp)|refine zE ?_|fail)
  all_goals first|rfl|(exfalso;omega)|(exfalso;simp at *;done)|trace_state
 have a1:=qmw s hz (by omega) (by omega) l hl b (by omega) hb.2
 have a2:=qfS s hz l hl (by omega)
 by_cases hall:qcy s l=0
 rotate_left
 ·rw[if_pos hall]at a1
  generalize qcy s l=q at*
  refine zT mix Tryz.func10 Tryz.ntmps10 Tryz.results10 rfl rfl rfl ?_;simp only[qab,Nat.reduceAdd]
  repeat'(first|(with_reducible rfl)|refine zQ ?_|refine zF h0 ?_|refine zF h1 ?_|refine zF h2 ?_|refine zF h3 ?_|refine zF a1 ?_|refine zF a2 ?_|(refine zC ?_ ?_<;>first|intro h|simp)|(refine zG ?_ ?_<;>first|intro h|simp)|refine zE ?_|fail)
  all_goals first|rfl|(simp;done)|(exfalso;omega)|(exfalso;simp at *;done)|trace_state
 rw[if_neg (not_not_intro hall)]at a1
 rw[hall]at a2
 by_cases h8:8<l.length
 ·rw[if_pos h8]at a1
  refine zT mix Tryz.func10 Tryz.ntmps10 Tryz.results10 rfl rfl rfl ?_;simp only[qab,Nat.reduceAdd]
  repeat'(first|(with_reducible rfl)|refine zQ ?_|refine zF h0 ?_|refine zF h1 ?_|refine zF h2 ?_|refine zF h3 ?_|refine zF a1 ?_|refine zF a2 ?_|(refine zC ?_ ?_<;>first|intro h|simp)|refine zE ?_|fail)
  all_goals first|rfl|(simp;done)|(exfalso;omega)|(exfalso;simp at *;done)|trace_state
 rw[if_neg h8]at a1
 obtain⟨hls,hlc⟩:=qd7 hall
 have ok:=(qcw hall).1
 have b1:=qDX s hz ok (by omega) l (by omega) hlc
 cases hbr:qqA s l with
 |false=>
  rw[hbr]at b1
  refine zT mix Tryz.func10 Tryz.ntmps10 Tryz.results10 rfl rfl rfl ?_;simp only[qab,Nat.reduceAdd]
  repeat'(first|(with_reducible rfl)|refine zQ ?_|refine zF h0 ?_|refine zF h1 ?_|refine zF h2 ?_|refine zF h3 ?_|refine zF a1 ?_|refine zF a2 ?_|refine zF b1 ?_|(refine zC ?_ ?_<;>first|intro h|simp)|refine zE ?_|fail)
  all_goals first|rfl|(exfalso;omega)|(exfalso;simp at *;done)|trace_state
 |true=>
 rw[hbr]at b1
 have b2:=qAU s hz ok (by omega) l (by omega) hlc b hb20 hb.2
 cases hq:qeO l.length (qaq s l) b with
 |false=>
  rw[hq]at b2 a1
  rw[if_neg (by simp)]at a1
  refine zT mix Tryz.func10 Tryz.ntmps10 Tryz.results10 rfl rfl rfl ?_;simp only[qab,Nat.reduceAdd]
  repeat'(first|(with_reducible rfl)|refine zQ ?_|refine zF h0 ?_|refine zF h1 ?_|refine zF h2 ?_|refine zF h3 ?_|refine zF a1 ?_|refine zF a2 ?_|refine zF b1 ?_|refine zF b2 ?_|(refine zC ?_ ?_<;>first|intro h|simp)|refine zE ?_|fail)
  all_goals first|rfl|(simp;done)|(exfalso;omega)|(exfalso;simp at *;done)|trace_state
 |true=>
 rw[hq]at b2 a1
 rw[if_pos rfl]at a1
 have hpr:IsPr l.length (qaq s l) b:=by
  refine Classical.byContradiction fun h=>?_
  rw[qrO h]at hq
  cases hq
 have hnone:=qvA hpr
 have b3:=qyL s hz (by omega) (by omega) l hl
 have e3:qvo s l=([],qdg l.length (qaq s l) (2^l.length),11):=by
  unfold qvo
  rw[if_neg (not_not_intro hall),if_neg h8]
  cases hp:Ord.planO l.length (qaq s l) (fun _ _=>0) l.length 0 with
  |none=>rfl
  |some c=>
   obtain⟨⟨l1,l2,e,_⟩,_⟩:=(Ord.plan_first (n:=l.length) (R:=qaq s l) (p:=fun _ _=>0) l.length 0).2 c hp
   rw[hnone]at e
   simp at e
 rw[e3]at b3
 generalize qdg l.length (qaq s l) (2^l.length)=pl at*
 refine zT mix Tryz.func10 Tryz.ntmps10 Tryz.results10 rfl rfl rfl ?_;simp only[qab,Nat.reduceAdd]
 repeat'(first|(with_reducible rfl)|refine zQ ?_|refine zF h0 ?_|refine zF h1 ?_|refine zF h2 ?_|refine zF h3 ?_|refine zF a1 ?_|refine zF a2 ?_|refine zF b1 ?_|refine zF b2 ?_|refine zF b3 ?_|(refine zC ?_ ?_<;>first|intro h|simp)|refine zE ?_|fail)
 all_goals first|rfl|(simp;done)|(exfalso;omega)|(exfalso;simp at *;done)|trace_state
end Go.Pv.Soil

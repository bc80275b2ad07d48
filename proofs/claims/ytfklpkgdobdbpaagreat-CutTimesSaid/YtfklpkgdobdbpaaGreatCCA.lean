import Derived.Test.YtfklpkgdobdbpaaGreatCBX
import Derived.Test.YtfklpkgdobdbpaaGreatCBY
import Derived.Test.YtfklpkgdobdbpaaGreatCBZ
/- Part of the proofs over YtfklpkgdobdbpaaGreat: N83, N71. -/
set_option linter.unusedVariables false
set_option linter.unusedSimpArgs false
set_option linter.unnecessarySimpa false
open Go Go.Proofs Go.Pv
set_option maxHeartbeats 8000000
set_option maxRecDepth 100000
set_option linter.unusedSimpArgs false
set_option linter.unusedVariables false
namespace Go.Pv.Soil
theorem qqy{s:Site}{l:List Cut}:∀{n:Nat},qbb s l n=none→∀k,k<n→qvi s l k=none
 |0,_,k,hk=>by omega
 |n+1,h,k,hk=>by
  rw[qbb,qcI]at h
  rcases Nat.lt_succ_iff_lt_or_eq.1 hk with h'|rfl
  ·exact qqy h.1 k h'
  ·exact Option.map_eq_none_iff.1 h.2
theorem qnr{s:Site}{l:List Cut}:∀{n:Nat} {k:Nat} {r c:Int},n≤l.length→qbb s l n=some (k,r,c)→r≠0
 |0,k,r,c,_,h=>by cases h
 |n+1,k,r,c,hn,h=>by
  rw[qbb]at h
  rcases qbA h with h|h
  ·exact qnr (by omega) h
  ·obtain⟨v,hv,e⟩:=Option.map_eq_some_iff.1 h
   injection e with e1 e2
   injection e2 with e2 e3
   rw[qjq (show n<l.length by omega)]at hv
   rw[←e2]
   split at hv
   ·injection hv with hv;rw[←hv];simp
   ·split at hv
    ·injection hv with hv;rw[←hv];simp
    ·exact qyG hv
theorem qvv{s:Site}(hs:OkSite s)(h100:s.bed.levels.length≤100){l:List Cut}(hl:∀i (hi:i<l.length),OkCut s l[i])(h:qbb s l l.length=none)(i:Nat)(hi:i<l.length):0≤prE s l i∧prE s l i≤1000000000000000:=by
 have hv:=qqy h i hi
 rw[qjq hi]at hv
 split at hv
 ·cases hv
 ·split at hv
  ·cases hv
  ·have hok:=qgE hs hl i
   have hlen:=hok.len hs.bed
   have:=qG8 hs hok (by omega) (hl i hi) hv
   rw[qtA hi]
   omega
theorem law_times(s:Site)(hw:Wide s)(l:List Cut)(hl:l.length≤9223372036854775807)(v:Int×Int×Int):Contract Tryz.prog 15 [.agg (encSite s),.sl (l.map encCut),.agg (encVio0 v)] (.ret (.bool true)):=by
 have h0:=qoC
 have h1:=qkv s hw
 have h2:Contract Tryz.prog 21 [.sl (l.map encCut),.int .i64 5] (.ret (.bool (qvG l 5))):=qAN l hl 5 (by omega)
 obtain⟨va,vc,vr⟩:=v
 change Contract Tryz.prog 15 [.agg (encSite s),.sl (l.map encCut),.agg [.int .i64 va,.int .i64 vc,.int .i64 vr]] (.ret (.bool true))
 cases hs:qmv s with
 |false=>
  rw[hs]at h1
  refine zT mix Tryz.func15 Tryz.ntmps15 Tryz.results15 rfl rfl rfl ?_;simp only[qab,Nat.reduceAdd]
  repeat'(first|(with_reducible rfl)|refine zQ ?_|refine zF h0 ?_|refine zF h1 ?_|refine zE ?_|fail)
  all_goals first|rfl|(exfalso;simp at *;done)|trace_state
 |true=>
 rw[hs]at h1
 obtain⟨hz,h16,hd8,_,_,_⟩:=qgZ hw hs
 cases hf:qvG l 5 with
 |false=>
  rw[hf]at h2
  refine zT mix Tryz.func15 Tryz.ntmps15 Tryz.results15 rfl rfl rfl ?_;simp only[qab,Nat.reduceAdd]
  repeat'(first|(with_reducible rfl)|refine zQ ?_|refine zF h0 ?_|refine zF h1 ?_|refine zF h2 ?_|refine zE ?_|fail)
  all_goals first|rfl|(exfalso;simp at *;done)|trace_state
 |true=>
 rw[hf]at h2
 have hlen:=qyQ hf
 have a1:=qDy s hz (by omega) (by omega) l hl
 have a2:=qFx s hz (by omega) (by omega) l hl
 have a3:Contract Tryz.prog 72 [.agg (encSite s),.sl (l.map encCut),.agg [.int .i64 va,.int .i64 vc,.int .i64 vr]] (.ret (.int .i64 (qvF s l va vc vr))):=qf6 s hz (by omega) (by omega) l hl va vc vr
 have a4:=qfS s hz l hl (by omega)
 by_cases hall:qcy s l=0
 rotate_left
 ·have e3:qfv s l=qcy s l:=if_pos hall
  have e1:qjR s l=[]:=by unfold qjR;rw[e3,if_neg hall]
  have e2:qqh s l=0:=by unfold qqh;rw[e3,if_neg hall]
  have e4:qvF s l va vc vr=qcy s l:=if_pos hall
  rw[e1,e3]at a1
  rw[e2,e3]at a2
  rw[e4]at a3
  generalize qcy s l=q at*
  refine zT mix Tryz.func15 Tryz.ntmps15 Tryz.results15 rfl rfl rfl ?_;simp only[qab,Nat.reduceAdd]
  repeat'(first|refine zQ ?_|refine zF h0 ?_|refine zF h1 ?_|refine zF h2 ?_|refine zF a1 ?_|refine zF a2 ?_|refine zF a3 ?_|refine zF a4 ?_|(refine zC ?_ ?_<;>first|intro h|simp)|(refine zG ?_ ?_<;>first|intro h|simp)|refine zE ?_|fail)
  all_goals first|rfl|(simp;done)|(exfalso;omega)|(exfalso;simp at *;done)|trace_state
 obtain⟨hls,hlc⟩:=qd7 hall
 have ok:=(qcw hall).1
 have b1:=qBV s hz ok (by omega) l (by omega) hlc
 have b2:=qyU s hz ok (by omega) l (by omega) hlc
 have e3:qfv s l=qvj (qbb s l l.length):=if_neg (not_not_intro hall)
 rw[hall]at a4
 generalize qvt s l=lo at*
 cases hfv:qbb s l l.length with
 |some w=>
  obtain⟨k,r,c⟩:=w
  have hr:=qnr (Nat.le_refl _) hfv
  have e5:qfv s l=r:=by rw[e3,hfv];rfl
  have e1:qjR s l=[]:=by unfold qjR;rw[e5,if_neg hr]
  have e2:qqh s l=0:=by unfold qqh;rw[e5,if_neg hr]
  rw[hfv]at b2
  rw[e1,e5]at a1
  rw[e2,e5]at a2
  by_cases hsv:va=(k:Int)∧vc=c∧vr=r
  ·obtain⟨rfl,rfl,rfl⟩:=hsv
   have e4:qvF s l (k:Int) vc vr=0:=by unfold qvF;rw[if_neg (not_not_intro hall),if_pos ⟨k,vr,vc,hfv,rfl,rfl,rfl⟩]
   rw[e4]at a3
   refine zT mix Tryz.func15 Tryz.ntmps15 Tryz.results15 rfl rfl rfl ?_;simp only[qab,Nat.reduceAdd]
   repeat'(first|(with_reducible rfl)|refine zQ ?_|refine zF h0 ?_|refine zF h1 ?_|refine zF h2 ?_|refine zF a1 ?_|refine zF a2 ?_|refine zF a3 ?_|refine zF a4 ?_|refine zF b1 ?_|refine zF b2 ?_|(refine zC ?_ ?_<;>first|intro h|simp)|(refine zG ?_ ?_<;>first|intro h|simp)|((with_reducible apply qaz);rfl;rfl)|refine zE ?_|fail)
   all_goals first|rfl|(simp;done)|(exfalso;omega)|(exfalso;simp at *;done)|trace_state
  ·have e4:qvF s l va vc vr=21:=by
    unfold qvF
    rw[if_neg (not_not_intro hall),if_neg]
    rintro⟨k',r',c',h,h3,h4,h5⟩
    rw[hfv]at h
    injection h with h
    injection h with h6 h7
    injection h7 with h7 h8
    subst h6 h7 h8
    exact hsv ⟨h3.symm,h4.symm,h5.symm⟩
   have hsd:(decide (va=(k:Int))&&(decide (vc=c)&&(decide (vr=r)&&true)))=false:=by
    rw[Bool.eq_false_iff]
    intro h
    simp only[Bool.and_eq_true,decide_eq_true_eq]at h
    exact hsv ⟨h.1,h.2.1,h.2.2.1⟩
   rw[e4]at a3
   refine zT mix Tryz.func15 Tryz.ntmps15 Tryz.results15 rfl rfl rfl ?_;simp only[qab,Nat.reduceAdd]
   repeat'(first|(with_reducible rfl)|refine zQ ?_|refine zF h0 ?_|refine zF h1 ?_|refine zF h2 ?_|refine zF a1 ?_|refine zF a2 ?_|refine zF a3 ?_|refine zF a4 ?_|refine zF b1 ?_|refine zF b2 ?_|(refine zC ?_ ?_<;>first|intro h|simp)|(refine zG ?_ ?_<;>first|intro h|simp)|((with_reducible apply qaz);rfl;rfl)|refine zE ?_|fail)
   all_goals first|rfl|(simp;done)|(exfalso;omega)|(exfalso;rw[hsd]at h;revert h;decide)|(exfalso;simp at *;done)|trace_state
 |none=>
  have hpl:qfv s l=0:=by rw[e3,hfv];rfl
  have e1:qjR s l=spL s l l.length:=by unfold qjR spR;rw[if_pos hpl,hfv];rfl
  have e2:qqh s l=prS s l l.length:=by unfold qqh prR;rw[if_pos hpl,hfv];rfl
  have e4:qvF s l va vc vr=21:=by
   unfold qvF
   rw[if_neg (not_not_intro hall),if_neg]
   rintro⟨k',r',c',h,_⟩
   rw[hfv]at h
   cases h
  have c1:=qFR s hz ok (by omega) l (by omega) hlc 1000000000000000 (by omega) (qvv ok (by omega) hlc hfv)
  have hsl:=qhI s l l.length
  rw[hfv]at b2
  rw[e1,hpl]at a1
  rw[e2,hpl]at a2
  rw[e4]at a3
  generalize hcs:prS s l l.length=cs at*
  refine zT mix Tryz.func15 Tryz.ntmps15 Tryz.results15 rfl rfl rfl ?_;simp only[qab,Nat.reduceAdd]
  repeat'(first|refine zQ ?_|refine zF h0 ?_|refine zF h1 ?_|refine zF h2 ?_|refine zF a1 ?_|refine zF a2 ?_|refine zF a3 ?_|refine zF a4 ?_|refine zF b1 ?_|refine zF b2 ?_|refine zF c1 ?_|(refine zC ?_ ?_<;>first|intro h|simp)|(refine zG ?_ ?_<;>first|intro h|simp)|((with_reducible apply qaz);rfl;rfl)|fail)
  all_goals first
   |exact qif rfl rfl rfl
   |(exfalso;omega)
   |(exfalso;simp[hsl]at *;done)
   |skip
  refine qad l.length (fun i=>⟨[(15,.int .i64 i),(7,.sl ((spL s l l.length).map qiD)),(1,.sl (l.map encCut)),(3,.op 0 0 0)],[(0,⟨12,true,[encSite s]⟩)],32,150⟩) (fun i=>True) ?_ trivial ?_
  ·exact qaa (nx:=32) (k:=0) (ns:=[]) (ks:=[15,7,1,3]) [(0,0)] rfl (by simp) (by kernel_rfl)
  intro i hi _
  by_cases hL:i<l.length
  rotate_left
  ·repeat'(first|(with_reducible rfl)|refine zQ ?_|(refine zI ?_;intro hlt)|(refine zC ?_ ?_<;>first|intro h|simp)|refine zE ?_|fail)
   all_goals first|rfl|exact absurd hL (by omega)|(exfalso;omega)|(exfalso;simp[hsl]at *;omega)|trace_state
  have b3:=qrL s hz ok (by omega) l (by omega) hlc i hL
  have hget:∀(h:i<(spL s l l.length).length),(spL s l l.length)[i]=spE s l i:=fun h=>by simp[spL]
  have hL2:i<(spL s l l.length).length:=by omega
  repeat'(first|(with_reducible rfl)|refine zQ ?_|refine zF b3 ?_|(refine zI ?_;intro hlt)|(refine zC ?_ ?_<;>first|intro h|simp)|refine zE ?_|fail)
  all_goals first
   |exact absurd hL (by omega)
   |exact⟨hL,trivial,qaa (nx:=32) (k:=0) (ns:=[]) (ks:=[15,7,1,3]) [(0,0)] rfl (by simp) (by kernel_rfl)⟩
   |(exfalso;simp[hget]at *;done)
   |trace_state
end Go.Pv.Soil

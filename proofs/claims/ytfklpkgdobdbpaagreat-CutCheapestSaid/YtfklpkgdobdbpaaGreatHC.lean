import Derived.Test.YtfklpkgdobdbpaaGreatHA
import Derived.Test.YtfklpkgdobdbpaaGreatHB
/- Part of the proofs over YtfklpkgdobdbpaaGreat: N82, N88. -/
set_option linter.unusedVariables false
set_option linter.unusedSimpArgs false
set_option linter.unnecessarySimpa false
open Go Go.Proofs Go.Pv
set_option maxHeartbeats 8000000
set_option maxRecDepth 100000
set_option linter.unusedSimpArgs false
set_option linter.unusedVariables false
namespace Go.Pv.Soil
def qMy(o:List Nat):List D:=[.sl (o.map qcx)]
theorem qM8:qjg qMy 1:=fun _=>⟨rfl,rfl,rfl⟩
noncomputable def qMx(s:Site)(l:List Cut)(m:Nat)(done:List Nat):List (List Nat):=(Ord.ordL l.length (qaq s l) m (Ord.setP done)).map (done++ ·)
noncomputable def qMG(s:Site)(l:List Cut)(m:Nat)(done:List Nat)(k:Nat):List (List Nat):=if Ord.nx (qaq s l) (Ord.setP done) k=true then qMx s l m (done++[k])else []
theorem qMU(s:Site)(l:List Cut)(m:Nat)(done:List Nat):qMx s l (m+1) done=(List.range l.length).flatMap (qMG s l m done):=by
 unfold qMx
 rw[Ord.ordL,List.map_flatMap]
 refine congrArg (fun f=>List.flatMap f (List.range l.length)) (funext fun k=>?_)
 unfold qMG qMx
 split
 ·rw[List.map_map,Ord.setP_snoc]
  refine List.map_congr_left fun o _=>?_
  simp
 ·rfl
theorem qM9{o:List Nat}{i:Nat}(hn:o.Nodup)(hi:i<o.length):Ord.setP (o.take (i+1))=Ord.setP (o.take i)+2^o[i]:=by
 rw[List.take_succ_eq_append_getElem hi,Ord.setP_snoc,Ord.or_add]
 rw[qAG,decide_eq_false_iff_not]
 intro hm
 obtain⟨j,hj,e⟩:=List.mem_iff_getElem.1 hm
 rw[List.length_take]at hj
 rw[List.getElem_take]at e
 have:=(List.getElem_inj hn).1 e
 omega
theorem qMz{n:Nat}{R:Nat→Nat→Int}:∀{m s:Nat},(Ord.ordL n R m s).length≤n^m
 |0,_=>by simp[Ord.ordL]
 |m+1,s=>by
  rw[Ord.ordL,List.length_flatMap]
  have h:∀ks:List Nat,(ks.map fun k=>(if Ord.nx R s k=true then(Ord.ordL n R m (s|||2^k)).map (k:: ·)else []).length).sum≤ks.length*n^m:=by
   intro ks
   induction ks with
   |nil=>simp
   |cons k ks ih=>
    rw[List.map_cons,List.sum_cons,List.length_cons,Nat.add_mul,Nat.one_mul]
    have:(if Ord.nx R s k=true then(Ord.ordL n R m (s|||2^k)).map (k:: ·)else []).length≤n^m:=by
     split
     ·rw[List.length_map];exact qMz
     ·simp
    omega
  have:=h (List.range n)
  rw[List.length_range]at this
  rw[Nat.pow_succ,Nat.mul_comm]
  exact this
theorem qMC{s:Site}{l:List Cut}(hll:l.length≤4){m:Nat}(hm:m≤4)(done:List Nat):(qMx s l m done).length≤256:=by
 unfold qMx
 rw[List.length_map]
 refine Nat.le_trans qMz ?_
 exact Nat.le_trans (Nat.pow_le_pow_left hll m) (Nat.le_trans (Nat.pow_le_pow_right (by decide) hm) (by decide))
noncomputable def qML(s:Site)(l:List Cut)(m:Nat)(done:List Nat)(k:Nat):List (List Nat):=(List.range k).flatMap (qMG s l m done)
theorem qMI(s:Site)(l:List Cut)(m:Nat)(done:List Nat)(k:Nat):qML s l m done (k+1)=qML s l m done k++qMG s l m done k:=by
 unfold qML;rw[List.range_succ,List.flatMap_append,List.flatMap_singleton]
theorem qMD{s:Site}{l:List Cut}(hll:l.length≤4){m:Nat}(hm:m≤4)(done:List Nat):∀k,(qML s l m done k).length≤256*k
 |0=>by simp[qML]
 |k+1=>by
  rw[qMI,List.length_append]
  have ih:=qMD (s:=s) hll hm done k
  have:(qMG s l m done k).length≤256:=by
   unfold qMG
   split
   ·exact qMC hll hm _
   ·simp
  omega
theorem qMM{o:List Nat}{n:Nat}(h:∀k∈o,k<n):Ord.setP o<2^n:=by
 refine Nat.lt_pow_two_of_testBit _ fun j hj=>?_
 rw[qAG,decide_eq_false_iff_not]
 intro hm
 have:=h j hm
 omega
theorem qMO(s:Site)(hz:Sized s)(hs:OkSite s)(h100:s.bed.levels.length≤100)(l:List Cut)(hll:l.length≤4)(hl:∀i (hi:i<l.length),OkCut s l[i]):∀(m:Nat) (done:List Nat),done.length+m=l.length→IsO l.length done→Contract Tryz.prog 118 [.agg (encSite s),.sl (l.map encCut),.sl (done.map qcx)] (.ret (.sl ((qMx s l m done).map qMy)))
 |0,done,hd,ho=>by
  have e:qMx s l 0 done=[done]:=by unfold qMx Ord.ordL;simp
  rw[e]
  refine zT mix Tryz.func118 Tryz.ntmps118 Tryz.results118 rfl rfl rfl ?_;simp only[qab,Nat.reduceAdd]
  repeat'(first|refine zQ ?_|(refine zC ?_ ?_<;>first|intro h|simp)|fail)
  all_goals try(exfalso;omega)
  refine qmT (k:=1) (cs:=qMy done) rfl rfl rfl rfl rfl rfl (by decide) rfl ?_
  repeat'(first|refine zA ?_|fail)
  exact qwU (f:=qMy) (l:=[done]) rfl rfl rfl rfl
 |m+1,done,hd,ho=>by
  have hlt:=qMM ho.lt
  have hp4:2^l.length≤16:=Nat.le_trans (Nat.pow_le_pow_right (by omega) hll) (by decide)
  refine zT mix Tryz.func118 Tryz.ntmps118 Tryz.results118 rfl rfl rfl ?_;simp only[qab,Nat.reduceAdd]
  repeat'(first|refine zQ ?_|(refine zC ?_ ?_<;>first|intro h|simp)|fail)
  all_goals try(exfalso;omega)
  refine qad done.length (fun i=>⟨[(8,.int .i64 i),(7,.int .i64 ((Ord.setP (done.take i):Nat):Int)),(1,.sl (l.map encCut)),(2,.sl (done.map qcx)),(3,.op 0 0 0)],[(0,⟨12,true,[encSite s]⟩)],32,61⟩) (fun i=>True) ?_ trivial ?_
  ·exact qaa (nx:=32) (k:=0) (ns:=[]) (ks:=[8,7,1,2,3]) [(0,0)] rfl (by simp) (by kernel_rfl)
  intro i hi _
  have hti:=qMM (n:=l.length) (o:=done.take i) fun k hk=>ho.lt k (List.mem_of_mem_take hk)
  by_cases hL:i<done.length
  ·have hk:=ho.lt done[i] (List.getElem_mem hL)
   have hadd:=qM9 ho.nd hL
   have hti2:=qMM (n:=l.length) (o:=done.take (i+1)) fun k hk=>ho.lt k (List.mem_of_mem_take hk)
   have e2:((Ord.setP (done.take i):Nat):Int)+((2^done[i]:Nat):Int)=((Ord.setP (done.take (i+1)):Nat):Int):=by rw[hadd];omega
   generalize Ord.setP (done.take (i+1))=S1 at*
   generalize Ord.setP (done.take i)=S0 at*
   repeat'(first|((with_reducible apply qce);rfl;rfl;rfl;omega)|refine zS ?_|refine zA ?_|(refine zI ?_;intro hlt)|(refine zC ?_ ?_<;>first|intro h|simp)|fail)
   all_goals try exact absurd hL (by omega)
   refine⟨hL,trivial,?_⟩
   rw[←e2]
   exact qaa (nx:=32) (k:=0) (ns:=[]) (ks:=[8,7,1,2,3]) [(0,0)] rfl (by simp) (by kernel_rfl)
  ·obtain rfl:i=done.length:=by omega
   rw[List.take_length]
   repeat'(first|refine zQ ?_|(refine zI ?_;intro hlt)|(refine zC ?_ ?_<;>first|intro h|simp)|((with_reducible apply qaz);rfl;rfl)|fail)
   all_goals try exact absurd (show done.length<done.length by omega) hL
   refine qad l.length (fun k=>⟨[(9,.os 1 0 (qML s l m done k).length),(10,.int .i64 k),(7,.int .i64 ((Ord.setP done:Nat):Int)),(1,.sl (l.map encCut)),(2,.sl (done.map qcx)),(3,.op 0 0 0)],[(1,⟨1,true,(qML s l m done k).map qMy⟩),(0,⟨12,true,[encSite s]⟩)],64,61⟩) (fun i=>True) ?_ trivial ?_
   ·exact qaa (nx:=64) (k:=1) (ns:=[(9,1)]) (ks:=[10,7,1,2,3]) [(0,0)] rfl (by simp;rfl) (by kernel_rfl)
   intro k hk _
   have hoc:=qMD (s:=s) hll (show m≤4 by omega) done k
   by_cases hK:k<l.length
   rotate_left
   ·obtain rfl:k=l.length:=by omega
    have e:qML s l m done l.length=qMx s l (m+1) done:=(qMU s l m done).symm
    rw[e]
    repeat'(first|refine zQ ?_|(refine zC ?_ ?_<;>first|intro h|simp)|(refine zG ?_ ?_<;>first|intro h|simp)|((with_reducible apply qaz);rfl;rfl)|fail)
    all_goals try exact absurd (show l.length<l.length by omega) hK
    exact qwU (f:=qMy) (l:=qMx s l (m+1) done) rfl rfl rfl rfl
   have h1:=qFQ s hz hs h100 l (by omega) hl (Ord.setP done) (by omega) k hK
   have hsu:=qMI s l m done k
   have hrt:qiF (Ord.setP done) k=false→qaq s l (Ord.setP done) k=qou s l (Ord.setP done) k:=fun h=>if_pos h
   have hnx:Ord.nx (qaq s l) (Ord.setP done) k=(!qiF (Ord.setP done) k&&decide (qaq s l (Ord.setP done) k=0)):=by unfold Ord.nx;rw[qju]
   cases hb:qiF (Ord.setP done) k with
   |true=>
    have hm:Ord.setP done/2^k%2=1:=of_decide_eq_true hb
    have e:qML s l m done (k+1)=qML s l m done k:=by
     rw[hsu]
     unfold qMG
     rw[hnx,hb]
     simp
    rw[e]
    repeat'(first|((with_reducible apply qdx);rfl;rfl;rfl;omega)|((with_reducible apply(qaS 7 [[0,1,2],[0],[],[]]));decide +kernel;rfl)|refine zS ?_|refine zA ?_|refine zF h1 ?_|(refine zC ?_ ?_<;>first|intro h|simp)|(refine zG ?_ ?_<;>first|intro h|simp)|fail)
    all_goals first
     |exact absurd hK (by omega)
     |(exfalso;simp only[tm2]at *;omega)
     |exact⟨hK,trivial,qaa (nx:=64) (k:=1) (ns:=[]) (ks:=[9,10,7,1,2,3]) [(1,1),(0,0)] rfl (by simp) (by kernel_rfl)⟩
     |trace_state
   |false=>
    have hm:¬Ord.setP done/2^k%2=1:=of_decide_eq_false hb
    by_cases hr:qou s l (Ord.setP done) k=0
    rotate_left
    ·have e:qML s l m done (k+1)=qML s l m done k:=by
      rw[hsu]
      unfold qMG
      rw[hnx,hrt hb,decide_eq_false hr]
      simp
     rw[e]
     repeat'(first|((with_reducible apply qdx);rfl;rfl;rfl;omega)|((with_reducible apply(qaS 7 [[0,1,2],[0],[],[]]));decide +kernel;rfl)|refine zS ?_|refine zA ?_|refine zF h1 ?_|(refine zC ?_ ?_<;>first|intro h|simp)|(refine zG ?_ ?_<;>first|intro h|simp)|fail)
     all_goals first
      |exact absurd hK (by omega)
      |(exfalso;simp only[tm2]at *;omega)
      |(exfalso;exact hr (by assumption))
      |exact⟨hK,trivial,qaa (nx:=64) (k:=1) (ns:=[]) (ks:=[9,10,7,1,2,3]) [(1,1),(0,0)] rfl (by simp) (by kernel_rfl)⟩
      |trace_state
    ·have hnin:k∉done:=by
      have:=qju (set:=Ord.setP done) (k:=k)
      rw[hb,qAG]at this
      exact of_decide_eq_false this.symm
     have hdo:IsO l.length (done++[k]):=⟨fun j hj=>by
      rcases List.mem_append.1 hj with h|h
      ·exact ho.lt j h
      ·rw[List.mem_singleton]at h;omega,by
      rw[List.nodup_append]
      exact⟨ho.nd,by simp,fun a ha b hb'=>by rw[List.mem_singleton]at hb';rintro rfl;exact hnin (hb'▸ha)⟩⟩
     have hrec:=qMO s hz hs h100 l hll hl m (done++[k]) (by rw[List.length_append,List.length_singleton];omega) hdo
     have e:qML s l m done (k+1)=qML s l m done k++qMx s l m (done++[k]):=by
      rw[hsu]
      unfold qMG
      rw[hnx,hb,hrt hb,hr]
      simp
     rw[e]
     rw[hr]at h1
     have h2:=qNe done (by omega)
     repeat'(first|((with_reducible apply qdx);rfl;rfl;rfl;omega)|((with_reducible apply(qM1 13 7 [[0,1,2],[0],[],[]]));kernel_rfl;rfl)|((with_reducible apply qdT);rfl;(exact h2);(exact qlD);rfl)|(with_reducible apply qMV)|(with_reducible apply qME)|(with_reducible apply qMB)|(with_reducible apply qMF)|refine zS ?_|refine zA ?_|refine zF h1 ?_|(refine zC ?_ ?_<;>first|intro h|simp)|(refine zG ?_ ?_<;>first|intro h|simp)|fail)
     all_goals first
      |exact absurd hK (by omega)
      |(exfalso;simp only[tm2]at *;omega)
      |skip
     refine qaH (f:=qcx) (a:=k) (l:=done) qlD rfl rfl rfl rfl rfl rfl (by kernel_rfl) (by kernel_rfl) (by omega) rfl ?_
     refine qMW ?_ ?_
     ·repeat'(first|(with_reducible apply qaw)|((with_reducible apply qa9);rfl;(intro id'))|((with_reducible apply qaT);rfl)|(with_reducible apply qaw)|((with_reducible apply qa9);rfl;(intro id'))|((with_reducible apply qaT);rfl)|refine zA ?_|fail)
     simp only[Nat.reduceAdd,Nat.reduceMul]
     refine qMA [736] [(57,.sl ((done++[k]).map qcx))] (fun x hx=>?_) rfl ?_
     ·simp only[List.mem_singleton]at hx
      subst hx
      exact qBf (k:=1) rfl (by rw[List.length_map,List.length_append];rfl)
     repeat'(first|(with_reducible apply qMF)|(with_reducible apply qMW)|(with_reducible apply qaw)|((with_reducible apply qa9);rfl;(intro id'))|((with_reducible apply qaT);rfl)|(with_reducible apply qaw)|((with_reducible apply qa9);rfl;(intro id'))|((with_reducible apply qaT);rfl)|refine zA ?_|refine zF hrec ?_|fail)
     have hoe:=qMC (s:=s) hll (show m≤4 by omega) (done++[k])
     refine qMX (f:=qMy) (l:=qML s l m done k) (l2:=qMx s l m (done++[k])) qM8 rfl rfl rfl rfl (by kernel_rfl) (by kernel_rfl) (by omega) rfl ?_
     repeat'(first|(with_reducible apply qMF)|(with_reducible apply qMH)|(with_reducible apply qMW)|(with_reducible apply qaw)|(with_reducible apply qaw)|refine zQ ?_|fail)
     refine⟨hK,trivial,?_⟩
     exact qaa (nx:=64) (k:=1) (ns:=[]) (ks:=[9,10,7,1,2,3]) [(1,1),(0,0)] rfl (by simp) (by kernel_rfl)
theorem qM3(s:Site)(hz:Sized s)(hs:OkSite s)(h100:s.bed.levels.length≤100)(l:List Cut)(hll:l.length≤4)(hl:∀i (hi:i<l.length),OkCut s l[i]):Contract Tryz.prog 35 [.agg (encSite s),.sl (l.map encCut)] (.ret (.sl ((Ord.ordL l.length (qaq s l) l.length 0).map qMy))):=by
 have h1:=qMO s hz hs h100 l hll hl l.length [] (by simp) ⟨by simp,by simp⟩
 have e:qMx s l l.length []=Ord.ordL l.length (qaq s l) l.length 0:=by
  unfold qMx
  simp[Ord.setP]
 rw[e]at h1
 generalize Ord.ordL l.length (qaq s l) l.length 0=A at*
 refine zT mix Tryz.func35 Tryz.ntmps35 Tryz.results35 rfl rfl rfl ?_;simp only[qab,Nat.reduceAdd]
 repeat'(first|refine zQ ?_|refine zF h1 ?_|fail)
 exact qif rfl rfl rfl
theorem qNd(s:Site)(hz:Sized s)(hs:OkSite s)(h100:s.bed.levels.length≤100)(l:List Cut)(hll:l.length≤8)(hl:∀i (hi:i<l.length),OkCut s l[i])(o:List Nat)(ho:o∈Ord.ordL l.length (qaq s l) l.length 0):Contract Tryz.prog 36 [.agg (encSite s),.sl ((qvm l o).map encCut)] (.ret (.int .i64 (Ord.ql1 (qaK s l) 0 o))):=by
 obtain⟨hio,hlen⟩:=qDD ho
 have:=qFR s hz hs h100 (qvm l o) (by rw[qtH hio.lt];omega) (qNc hl hio.lt) 1000000000000000 (by omega) (qNk hs h100 hl ho)
 rw[qNi hl hio]at this
 exact this
theorem law_cheapest(s:Site)(hw:Wide s)(l:List Cut)(hl:l.length≤9223372036854775807):Contract Tryz.prog 6 [.agg (encSite s),.sl (l.map encCut)] (.ret (.bool true)):=by
 have h0:=qoC
 have h1:=qkv s hw
 have h2:Contract Tryz.prog 21 [.sl (l.map encCut),.int .i64 12] (.ret (.bool (qvG l 12))):=qAN l hl 12 (by omega)
 have h3:=qFV l hl
 cases hs:qmv s with
 |false=>
  rw[hs]at h1
  refine zT mix Tryz.func6 Tryz.ntmps6 Tryz.results6 rfl rfl rfl ?_;simp only[qab,Nat.reduceAdd]
  repeat'(first|(with_reducible rfl)|refine zQ ?_|refine zF h0 ?_|refine zF h1 ?_|refine zE ?_|fail)
  all_goals first|rfl|(exfalso;simp at *;done)|trace_state
 |true=>
 rw[hs]at h1
 obtain⟨hz,h16,hd8,_,_,_⟩:=qgZ hw hs
 cases hf:qvG l 12 with
 |false=>
  rw[hf]at h2
  refine zT mix Tryz.func6 Tryz.ntmps6 Tryz.results6 rfl rfl rfl ?_;simp only[qab,Nat.reduceAdd]
  repeat'(first|(with_reducible rfl)|refine zQ ?_|refine zF h0 ?_|refine zF h1 ?_|refine zF h2 ?_|refine zE ?_|fail)
  all_goals first|rfl|(exfalso;simp at *;done)|trace_state
 |true=>
 rw[hf]at h2
 cases hm:qAX l with
 |false=>
  rw[hm]at h3
  refine zT mix Tryz.func6 Tryz.ntmps6 Tryz.results6 rfl rfl rfl ?_;simp only[qab,Nat.reduceAdd]
  repeat'(first|(with_reducible rfl)|refine zQ ?_|refine zF h0 ?_|refine zF h1 ?_|refine zF h2 ?_|refine zF h3 ?_|refine zE ?_|fail)
  all_goals first|rfl|(exfalso;simp at *;done)|trace_state
 |true=>
 rw[hm]at h3
 have a1:=qEc s hz (by omega) (by omega) l hl
 have a2:=qfS s hz l hl (by omega)
 by_cases hall:qcy s l=0
 rotate_left
 ·have e:qtM s l=([],0,qcy s l):=if_pos hall
  rw[e]at a1
  generalize qcy s l=q at*
  refine zT mix Tryz.func6 Tryz.ntmps6 Tryz.results6 rfl rfl rfl ?_;simp only[qab,Nat.reduceAdd]
  repeat'(first|refine zQ ?_|refine zF h0 ?_|refine zF h1 ?_|refine zF h2 ?_|refine zF h3 ?_|refine zF a1 ?_|refine zF a2 ?_|(refine zC ?_ ?_<;>first|intro h|simp)|(refine zG ?_ ?_<;>first|intro h|simp)|refine zE ?_|fail)
  all_goals first|rfl|(simp;done)|(exfalso;omega)|(exfalso;simp at *;done)|trace_state
 rw[hall]at a2
 by_cases h8:8<l.length
 ·have e:qtM s l=([],0,8):=by unfold qtM;rw[if_neg (not_not_intro hall),if_pos h8]
  rw[e]at a1
  refine zT mix Tryz.func6 Tryz.ntmps6 Tryz.results6 rfl rfl rfl ?_;simp only[qab,Nat.reduceAdd]
  repeat'(first|refine zQ ?_|refine zF h0 ?_|refine zF h1 ?_|refine zF h2 ?_|refine zF h3 ?_|refine zF a1 ?_|refine zF a2 ?_|(refine zC ?_ ?_<;>first|intro h|simp)|refine zE ?_|fail)
  all_goals first|rfl|(simp;done)|(exfalso;omega)|(exfalso;simp at *;done)|trace_state
 obtain⟨hls,hlc⟩:=qd7 hall
 have ok:=(qcw hall).1
 have h4:l.length≤4:=by
  have:=of_decide_eq_true hm
  omega
 have b1:=qDX s hz ok (by omega) l (by omega) hlc
 cases hbr:qqA s l with
 |false=>
  rw[hbr]at b1
  generalize qtM s l=q at*
  refine zT mix Tryz.func6 Tryz.ntmps6 Tryz.results6 rfl rfl rfl ?_;simp only[qab,Nat.reduceAdd]
  repeat'(first|(with_reducible rfl)|refine zQ ?_|refine zF h0 ?_|refine zF h1 ?_|refine zF h2 ?_|refine zF h3 ?_|refine zF a1 ?_|refine zF a2 ?_|refine zF b1 ?_|(refine zC ?_ ?_<;>first|intro h|simp)|(refine zG ?_ ?_<;>first|intro h|simp)|refine zE ?_|fail)
  all_goals first|rfl|(exfalso;omega)|(exfalso;simp at *;done)|trace_state
 |true=>
 rw[hbr]at b1
 have b2:=qM3 s hz ok (by omega) l h4 hlc
 have hcnt:=qMz (n:=l.length) (R:=qaq s l) (m:=l.length) (s:=0)
 have hc2:(Ord.ordL l.length (qaq s l) l.length 0).length≤256:=Nat.le_trans hcnt (Nat.le_trans (Nat.pow_le_pow_left h4 _) (Nat.le_trans (Nat.pow_le_pow_right (by decide) h4) (by decide)))
 have ec:qtM s l=match Ord.planO l.length (qaq s l) (qaK s l) l.length 0 with
   |none=>([],0,11)
   |some c=>(Ord.qbn l.length (qaq s l) (qaK s l) l.length 0,c,0):=by unfold qtM;rw[if_neg (not_not_intro hall),if_neg h8];rfl
 rw[ec]at a1
 obtain⟨g1,g2⟩:=Ord.plan_first (n:=l.length) (R:=qaq s l) (p:=qaK s l) l.length 0
 have hcost:=qNd s hz ok (by omega) l (by omega) hlc
 have hmem:∀o∈Ord.ordL l.length (qaq s l) l.length 0,IsO l.length o∧o.length=l.length:=fun o ho=>qDD ho
 cases hp:Ord.planO l.length (qaq s l) (qaK s l) l.length 0 with
 |none=>
  rw[hp]at a1
  rw[g1 hp]at b2
  refine zT mix Tryz.func6 Tryz.ntmps6 Tryz.results6 rfl rfl rfl ?_;simp only[qab,Nat.reduceAdd]
  repeat'(first|refine zQ ?_|refine zF h0 ?_|refine zF h1 ?_|refine zF h2 ?_|refine zF h3 ?_|refine zF a1 ?_|refine zF a2 ?_|refine zF b1 ?_|refine zF b2 ?_|(refine zC ?_ ?_<;>first|intro h|simp)|refine zE ?_|fail)
  all_goals first|rfl|(simp;done)|(exfalso;omega)|(exfalso;simp at *;done)|trace_state
 |some c=>
 obtain⟨g3,g4⟩:=g2 c hp
 rw[hp]at a1
 dsimp only at a1
 generalize Ord.qbn l.length (qaq s l) (qaK s l) l.length 0=path at*
 generalize Ord.ordL l.length (qaq s l) l.length 0=A at*
 have hA0:0<A.length:=by
  obtain⟨l1,l2,e,_⟩:=g3
  rw[e,List.length_append,List.length_cons];omega
 obtain⟨M,hM⟩:∃M,A.length=M+1:=⟨A.length-1,by omega⟩
 obtain⟨hb,hbst⟩:=Ord.qNo g3 hM
 have hble:∀i,Ord.qMS (fun j=>Ord.ql1 (qaK s l) 0 (A.getD j [])) i≤i:=fun i=>Ord.qM7
 have hbs:∀i,Ord.qMS (fun j=>Ord.ql1 (qaK s l) 0 (A.getD j [])) (i+1)=if Ord.ql1 (qaK s l) 0 (A.getD (i+1) [])<Ord.ql1 (qaK s l) 0 (A.getD (Ord.qMS (fun j=>Ord.ql1 (qaK s l) 0 (A.getD j [])) i) [])then i+1 else Ord.qMS (fun j=>Ord.ql1 (qaK s l) 0 (A.getD j [])) i:=fun i=>rfl
 have hg:∀j (hj:j<A.length),A.getD j []=A[j]:=fun j hj=>by rw[List.getD_eq_getElem?_getD,List.getElem?_eq_getElem hj];rfl
 have hsrt:∀j (hj:j<A.length),Contract Tryz.prog 37 [.sl (l.map encCut),.sl (A[j].map qcx)] (.ret (.sl ((qvm l A[j]).map encCut))):=fun j hj=>by
  obtain⟨x1,x2⟩:=hmem A[j] (List.getElem_mem hj)
  exact qM2 l (by omega) A[j] x1.lt (by omega)
 have hcst:∀j (hj:j<A.length),Contract Tryz.prog 36 [.agg (encSite s),.sl ((qvm l A[j]).map encCut)] (.ret (.int .i64 (Ord.ql1 (qaK s l) 0 A[j]))):=fun j hj=>hcost A[j] (List.getElem_mem hj)
 have hB0:Ord.qMS (fun j=>Ord.ql1 (qaK s l) 0 (A.getD j [])) 0=0:=rfl
 generalize Ord.qMS (fun j=>Ord.ql1 (qaK s l) 0 (A.getD j []))=B at*
 have hpl:path.length≤4:=by
  have:=(hmem A[B M] (List.getElem_mem hb)).2
  rw[hbst]at this
  omega
 refine zT mix Tryz.func6 Tryz.ntmps6 Tryz.results6 rfl rfl rfl ?_;simp only[qab,Nat.reduceAdd]
 repeat'(first|refine zQ ?_|refine zF h0 ?_|refine zF h1 ?_|refine zF h2 ?_|refine zF h3 ?_|refine zF a1 ?_|refine zF a2 ?_|refine zF b1 ?_|refine zF b2 ?_|(refine zC ?_ ?_<;>first|intro h|simp)|fail)
 all_goals first|(exfalso;omega)|(exfalso;simp at *;done)|skip
 refine qad M (fun i=>⟨[(10,.int .i64 ((B i:Nat):Int)),(11,.int .i64 ((i+1:Nat):Int)),(9,.sl (A.map qMy)),(5,.sl (path.map qcx)),(6,.int .i64 c),(7,.int .i64 0),(1,.sl (l.map encCut)),(2,.op 0 0 0)],[(0,⟨12,true,[encSite s]⟩)],32,125⟩) (fun i=>True) ?_ trivial ?_
 ·exact qaa (nx:=32) (k:=0) (ns:=[]) (ks:=[10,11,9,5,6,7,1,2]) [(0,0)] rfl (by simp) (by simp only[hB0];kernel_rfl)
 intro i hi _
 have hBi:=hble i
 by_cases hL:i<M
 ·have k1:i+1<A.length:=by omega
  have k2:B i<A.length:=by omega
  have c1:=hsrt (i+1) k1
  have c2:=hsrt (B i) k2
  have d1:=hcst (i+1) k1
  have d2:=hcst (B i) k2
  have e0:=hbs i
  rw[hg _ k1,hg _ k2]at e0
  generalize Ord.ql1 (qaK s l) 0 A[i+1]=X1 at*
  generalize Ord.ql1 (qaK s l) 0 A[B i]=X2 at*
  have e1:X1<X2→B (i+1)=i+1:=fun h=>by rw[e0,if_pos h]
  have e2:¬X1<X2→B (i+1)=B i:=fun h=>by rw[e0,if_neg h]
  repeat'(first|refine zQ ?_|refine zF c1 ?_|refine zF c2 ?_|refine zF d1 ?_|refine zF d2 ?_|(refine zI ?_;intro hlt)|(refine zC ?_ ?_<;>first|intro h|simp)|fail)
  all_goals first
   |exact absurd hL (by omega)
   |(refine⟨hL,trivial,?_⟩;simp only[e1 (by assumption)];exact qaa (nx:=32) (k:=0) (ns:=[]) (ks:=[10,11,9,5,6,7,1,2]) [(0,0)] rfl (by simp) (by kernel_rfl))
   |(refine⟨hL,trivial,?_⟩;simp only[e2 (by assumption)];exact qaa (nx:=32) (k:=0) (ns:=[]) (ks:=[10,11,9,5,6,7,1,2]) [(0,0)] rfl (by simp) (by kernel_rfl))
   |trace_state
 ·obtain rfl:i=M:=by omega
  have c1:=hsrt (B i) hb
  have d1:=hcst (B i) hb
  have c4:Contract Tryz.prog 38 [.sl (path.map qcx),.sl ((A[B i]).map qcx)] (.ret (.bool true)):=by rw[hbst];exact qyR path (by omega)
  rw[show Ord.ql1 (qaK s l) 0 A[B i]=c by rw[hbst];exact g4]at d1
  repeat'(first|refine zQ ?_|refine zF c1 ?_|refine zF d1 ?_|refine zF c4 ?_|(refine zI ?_;intro hlt)|(refine zC ?_ ?_<;>first|intro h|simp)|refine zE ?_|fail)
  all_goals first|rfl|exact absurd (show i<i by omega) hL|(simp;done)|(exfalso;omega)|(exfalso;simp at *;done)|trace_state
end Go.Pv.Soil

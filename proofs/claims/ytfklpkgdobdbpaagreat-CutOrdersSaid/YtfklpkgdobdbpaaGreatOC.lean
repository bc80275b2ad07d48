import Derived.Test.YtfklpkgdobdbpaaGreatOB
/- Part of the proofs. -/
set_option linter.unusedVariables false
set_option linter.unusedSimpArgs false
set_option linter.unnecessarySimpa false
open Go Go.Proofs Go.Pv
set_option maxHeartbeats 8000000
set_option maxRecDepth 100000
namespace Go.Pv.Soil
def qMz(o:List Nat):List D:=[.sl (o.map qcx)]
theorem qM7:qjg qMz 1:=fun _=>⟨rfl,rfl,rfl⟩
noncomputable def qMx(s:Site)(l:List Cut)(m:Nat)(done:List Nat):List (List Nat):=(Ord.ordL l.length (qaq s l) m (Ord.setP done)).map (done++ ·)
noncomputable def qMH(s:Site)(l:List Cut)(m:Nat)(done:List Nat)(k:Nat):List (List Nat):=if Ord.nx (qaq s l) (Ord.setP done) k=true then qMx s l m (done++[k])else []
theorem qMR(s:Site)(l:List Cut)(m:Nat)(done:List Nat):qMx s l (m+1) done=(List.range l.length).flatMap (qMH s l m done):=by
 unfold qMx
 rw[Ord.ordL,List.map_flatMap]
 refine congrArg (fun f=>List.flatMap f (List.range l.length)) (funext fun k=>?_)
 unfold qMH qMx
 split
 ·rw[List.map_map,Ord.setP_snoc]
  refine List.map_congr_left fun o _=>?_
  simp
 ·rfl
theorem qM8{o:List Nat}{i:Nat}(hn:o.Nodup)(hi:i<o.length):Ord.setP (o.take (i+1))=Ord.setP (o.take i)+2^o[i]:=by
 rw[List.take_succ_eq_append_getElem hi,Ord.setP_snoc,Ord.or_add]
 rw[qAG,decide_eq_false_iff_not]
 intro hm
 obtain⟨j,hj,e⟩:=List.mem_iff_getElem.1 hm
 rw[List.length_take]at hj
 rw[List.getElem_take]at e
 have:=(List.getElem_inj hn).1 e
 omega
theorem qMC{n:Nat}{R:Nat→Nat→Int}:∀{m s:Nat},(Ord.ordL n R m s).length≤n^m
 |0,_=>by simp[Ord.ordL]
 |m+1,s=>by
  rw[Ord.ordL,List.length_flatMap]
  have h:∀ks:List Nat,(ks.map fun k=>(if Ord.nx R s k=true then(Ord.ordL n R m (s|||2^k)).map (k:: ·)else []).length).sum≤ks.length*n^m:=by
   intro ks
   induction ks with
   |nil=>simp
   |cons k ks ih=>
    rw[List.map_cons,List.sum_cons,List.length_cons,Nat.add_mul,Nat.one_mul]
    have:(if Ord.nx R s k=true then(Ord.ordL n R m (s|||2^k)).map (k:: ·)else []).length≤n^m:=by
     split
     ·rw[List.length_map];exact qMC
     ·simp
    omega
  have:=h (List.range n)
  rw[List.length_range]at this
  rw[Nat.pow_succ,Nat.mul_comm]
  exact this
theorem qMD{s:Site}{l:List Cut}(hll:l.length≤4){m:Nat}(hm:m≤4)(done:List Nat):(qMx s l m done).length≤256:=by
 unfold qMx
 rw[List.length_map]
 refine Nat.le_trans qMC ?_
 exact Nat.le_trans (Nat.pow_le_pow_left hll m) (Nat.le_trans (Nat.pow_le_pow_right (by decide) hm) (by decide))
noncomputable def qML(s:Site)(l:List Cut)(m:Nat)(done:List Nat)(k:Nat):List (List Nat):=(List.range k).flatMap (qMH s l m done)
theorem qMJ(s:Site)(l:List Cut)(m:Nat)(done:List Nat)(k:Nat):qML s l m done (k+1)=qML s l m done k++qMH s l m done k:=by
 unfold qML;rw[List.range_succ,List.flatMap_append,List.flatMap_singleton]
theorem qME{s:Site}{l:List Cut}(hll:l.length≤4){m:Nat}(hm:m≤4)(done:List Nat):∀k,(qML s l m done k).length≤256*k
 |0=>by simp[qML]
 |k+1=>by
  rw[qMJ,List.length_append]
  have ih:=qME (s:=s) hll hm done k
  have:(qMH s l m done k).length≤256:=by
   unfold qMH
   split
   ·exact qMD hll hm _
   ·simp
  omega
theorem qMM{o:List Nat}{n:Nat}(h:∀k∈o,k<n):Ord.setP o<2^n:=by
 refine Nat.lt_pow_two_of_testBit _ fun j hj=>?_
 rw[qAG,decide_eq_false_iff_not]
 intro hm
 have:=h j hm
 omega
theorem qMO(s:Site)(hz:Sized s)(hs:OkSite s)(h100:s.bed.levels.length≤100)(l:List Cut)(hll:l.length≤4)(hl:∀i (hi:i<l.length),OkCut s l[i]):∀(m:Nat) (done:List Nat),done.length+m=l.length→IsO l.length done→Contract Tryz.prog 118 [.agg (encSite s),.sl (l.map encCut),.sl (done.map qcx)] (.ret (.sl ((qMx s l m done).map qMz)))
 |0,done,hd,ho=>by
  have e:qMx s l 0 done=[done]:=by unfold qMx Ord.ordL;simp
  rw[e]
  refine zT mix Tryz.func118 Tryz.ntmps118 Tryz.results118 rfl rfl rfl ?_;simp only[qab,Nat.reduceAdd]
  repeat'(first|refine zQ ?_|(refine zC ?_ ?_<;>first|intro h|simp)|fail)
  all_goals try(exfalso;omega)
  refine qmT (k:=1) (cs:=qMz done) rfl rfl rfl rfl rfl rfl (by decide) rfl ?_
  repeat'(first|refine zA ?_|fail)
  exact qwU (f:=qMz) (l:=[done]) rfl rfl rfl rfl
 |m+1,done,hd,ho=>by
  have hlt:=qMM ho.lt
  have hp4:2^l.length≤16:=Nat.le_trans (Nat.pow_le_pow_right (by omega) hll) (by decide)
  refine zT mix Tryz.func118 Tryz.ntmps118 Tryz.results118 rfl rfl rfl ?_;simp only[qab,Nat.reduceAdd]
  repeat'(first|refine zQ ?_|(refine zC ?_ ?_<;>first|intro h|simp)|fail)
  all_goals try(exfalso;omega)
  refine qad done.length (fun i=>⟨[(8,.int .i64 i),(7,.int .i64 ((Ord.setP (done.take i):Nat):Int)),(1,.sl (l.map encCut)),(2,.sl (done.map qcx)),(3,.op 0 0 0)],[(0,⟨12,true,[encSite s]⟩)],32,61⟩) (fun i=>True) ?_ trivial ?_
  ·exact qaa (nx:=32) (k:=0) (ns:=[]) (ks:=[8,7,1,2,3]) [(0,0)] rfl (by simp) (by kernel_rfl)
  intro i hi _
  have hti:=qMM (n:=l.length) (o:=done.take i) fun k hk=>ho.lt k (List.mem_of_mem_take hk)
  by_cases hL:i<done.length
  ·have hk:=ho.lt done[i] (List.getElem_mem hL)
   have hadd:=qM8 ho.nd hL
   have hti2:=qMM (n:=l.length) (o:=done.take (i+1)) fun k hk=>ho.lt k (List.mem_of_mem_take hk)
   have e2:((Ord.setP (done.take i):Nat):Int)+((2^done[i]:Nat):Int)=((Ord.setP (done.take (i+1)):Nat):Int):=by rw[hadd];omega
   generalize Ord.setP (done.take (i+1))=S1 at*
   generalize Ord.setP (done.take i)=S0 at*
   repeat'(first|((with_reducible apply qce);rfl;rfl;rfl;omega)|refine zS ?_|refine zA ?_|(refine zI ?_;intro hlt)|(refine zC ?_ ?_<;>first|intro h|simp)|fail)
   all_goals try exact absurd hL (by omega)
   refine⟨hL,trivial,?_⟩
   rw[←e2]
   exact qaa (nx:=32) (k:=0) (ns:=[]) (ks:=[8,7,1,2,3]) [(0,0)] rfl (by simp) (by kernel_rfl)
  ·obtain rfl:i=done.length:=by omega
   rw[List.take_length]
   repeat'(first|refine zQ ?_|(refine zI ?_;intro hlt)|(refine zC ?_ ?_<;>first|intro h|simp)|((with_reducible apply qaz);rfl;rfl)|fail)
   all_goals try exact absurd (show done.length<done.length by omega) hL
   refine qad l.length (fun k=>⟨[(9,.os 1 0 (qML s l m done k).length),(10,.int .i64 k),(7,.int .i64 ((Ord.setP done:Nat):Int)),(1,.sl (l.map encCut)),(2,.sl (done.map qcx)),(3,.op 0 0 0)],[(1,⟨1,true,(qML s l m done k).map qMz⟩),(0,⟨12,true,[encSite s]⟩)],64,61⟩) (fun i=>True) ?_ trivial ?_
   ·exact qaa (nx:=64) (k:=1) (ns:=[(9,1)]) (ks:=[10,7,1,2,3]) [(0,0)] rfl (by simp;rfl) (by kernel_rfl)
   intro k hk _
   have hoc:=qME (s:=s) hll (show m≤4 by omega) done k
   by_cases hK:k<l.length
   rotate_left
   ·obtain rfl:k=l.length:=by omega
    have e:qML s l m done l.length=qMx s l (m+1) done:=(qMR s l m done).symm
    rw[e]
    repeat'(first|refine zQ ?_|(refine zC ?_ ?_<;>first|intro h|simp)|(refine zG ?_ ?_<;>first|intro h|simp)|((with_reducible apply qaz);rfl;rfl)|fail)
    all_goals try exact absurd (show l.length<l.length by omega) hK
    exact qwU (f:=qMz) (l:=qMx s l (m+1) done) rfl rfl rfl rfl
   have h1:=qFQ s hz hs h100 l (by omega) hl (Ord.setP done) (by omega) k hK
   have hsu:=qMJ s l m done k
   have hrt:qiF (Ord.setP done) k=false→qaq s l (Ord.setP done) k=qou s l (Ord.setP done) k:=fun h=>if_pos h
   have hnx:Ord.nx (qaq s l) (Ord.setP done) k=(!qiF (Ord.setP done) k&&decide (qaq s l (Ord.setP done) k=0)):=by unfold Ord.nx;rw[qju]
   cases hb:qiF (Ord.setP done) k with
   |true=>
    have hm:Ord.setP done/2^k%2=1:=of_decide_eq_true hb
    have e:qML s l m done (k+1)=qML s l m done k:=by
     rw[hsu]
     unfold qMH
     rw[hnx,hb]
     simp
    rw[e]
    repeat'(first|((with_reducible apply qdx);rfl;rfl;rfl;omega)|((with_reducible apply(qaS 7 [[0,1,2],[0],[],[]]));decide +kernel;rfl)|refine zS ?_|refine zA ?_|refine zF h1 ?_|(refine zC ?_ ?_<;>first|intro h|simp)|(refine zG ?_ ?_<;>first|intro h|simp)|fail)
    all_goals first
     |exact absurd hK (by omega)
     |(exfalso;simp only[tm2]at *;omega)
     |exact⟨hK,trivial,qaa (nx:=64) (k:=1) (ns:=[]) (ks:=[9,10,7,1,2,3]) [(1,1),(0,0)] rfl (by simp) (by kernel_rfl)⟩
   |false=>
    have hm:¬Ord.setP done/2^k%2=1:=of_decide_eq_false hb
    by_cases hr:qou s l (Ord.setP done) k=0
    rotate_left
    ·have e:qML s l m done (k+1)=qML s l m done k:=by
      rw[hsu]
      unfold qMH
      rw[hnx,hrt hb,decide_eq_false hr]
      simp
     rw[e]
     repeat'(first|((with_reducible apply qdx);rfl;rfl;rfl;omega)|((with_reducible apply(qaS 7 [[0,1,2],[0],[],[]]));decide +kernel;rfl)|refine zS ?_|refine zA ?_|refine zF h1 ?_|(refine zC ?_ ?_<;>first|intro h|simp)|(refine zG ?_ ?_<;>first|intro h|simp)|fail)
     all_goals first
      |exact absurd hK (by omega)
      |(exfalso;simp only[tm2]at *;omega)
      |(exfalso;exact hr (by assumption))
      |exact⟨hK,trivial,qaa (nx:=64) (k:=1) (ns:=[]) (ks:=[9,10,7,1,2,3]) [(1,1),(0,0)] rfl (by simp) (by kernel_rfl)⟩
    ·have hnin:k∉done:=by
      have:=qju (set:=Ord.setP done) (k:=k)
      rw[hb,qAG]at this
      exact of_decide_eq_false this.symm
     have hdo:IsO l.length (done++[k]):=⟨fun j hj=>by
      rcases List.mem_append.1 hj with h|h
      ·exact ho.lt j h
      ·rw[List.mem_singleton]at h;omega,by
      rw[List.nodup_append]
      exact⟨ho.nd,by simp,fun a ha b hb'=>by rw[List.mem_singleton]at hb';rintro rfl;exact hnin (hb'▸ha)⟩⟩
     have hrec:=qMO s hz hs h100 l hll hl m (done++[k]) (by rw[List.length_append,List.length_singleton];omega) hdo
     have e:qML s l m done (k+1)=qML s l m done k++qMx s l m (done++[k]):=by
      rw[hsu]
      unfold qMH
      rw[hnx,hb,hrt hb,hr]
      simp
     rw[e]
     rw[hr]at h1
     have h2:=qNd done (by omega)
     repeat'(first|((with_reducible apply qdx);rfl;rfl;rfl;omega)|((with_reducible apply(qM0 13 7 [[0,1,2],[0],[],[]]));kernel_rfl;rfl)|((with_reducible apply qdT);rfl;(exact h2);(exact qlD);rfl)|(with_reducible apply qMU)|(with_reducible apply qMF)|(with_reducible apply qMB)|(with_reducible apply qMG)|refine zS ?_|refine zA ?_|refine zF h1 ?_|(refine zC ?_ ?_<;>first|intro h|simp)|(refine zG ?_ ?_<;>first|intro h|simp)|fail)
     all_goals first
      |exact absurd hK (by omega)
      |(exfalso;simp only[tm2]at *;omega)
      |skip
     refine qaH (f:=qcx) (a:=k) (l:=done) qlD rfl rfl rfl rfl rfl rfl (by kernel_rfl) (by kernel_rfl) (by omega) rfl ?_
     refine qMV ?_ ?_
     ·repeat'(first|(with_reducible apply qaw)|((with_reducible apply qa9);rfl;(intro id'))|((with_reducible apply qaT);rfl)|(with_reducible apply qaw)|((with_reducible apply qa9);rfl;(intro id'))|((with_reducible apply qaT);rfl)|refine zA ?_|fail)
     simp only[Nat.reduceAdd,Nat.reduceMul]
     refine qMA [736] [(57,.sl ((done++[k]).map qcx))] (fun x hx=>?_) rfl ?_
     ·simp only[List.mem_singleton]at hx
      subst hx
      exact qBf (k:=1) rfl (by rw[List.length_map,List.length_append];rfl)
     repeat'(first|(with_reducible apply qMG)|(with_reducible apply qMV)|(with_reducible apply qaw)|((with_reducible apply qa9);rfl;(intro id'))|((with_reducible apply qaT);rfl)|(with_reducible apply qaw)|((with_reducible apply qa9);rfl;(intro id'))|((with_reducible apply qaT);rfl)|refine zA ?_|refine zF hrec ?_|fail)
     have hoe:=qMD (s:=s) hll (show m≤4 by omega) (done++[k])
     refine qMW (f:=qMz) (l:=qML s l m done k) (l2:=qMx s l m (done++[k])) qM7 rfl rfl rfl rfl (by kernel_rfl) (by kernel_rfl) (by omega) rfl ?_
     repeat'(first|(with_reducible apply qMG)|(with_reducible apply qMI)|(with_reducible apply qMV)|(with_reducible apply qaw)|(with_reducible apply qaw)|refine zQ ?_|fail)
     refine⟨hK,trivial,?_⟩
     exact qaa (nx:=64) (k:=1) (ns:=[]) (ks:=[9,10,7,1,2,3]) [(1,1),(0,0)] rfl (by simp) (by kernel_rfl)
theorem qM1(s:Site)(hz:Sized s)(hs:OkSite s)(h100:s.bed.levels.length≤100)(l:List Cut)(hll:l.length≤4)(hl:∀i (hi:i<l.length),OkCut s l[i]):Contract Tryz.prog 35 [.agg (encSite s),.sl (l.map encCut)] (.ret (.sl ((Ord.ordL l.length (qaq s l) l.length 0).map qMz))):=by
 have h1:=qMO s hz hs h100 l hll hl l.length [] (by simp) ⟨by simp,by simp⟩
 have e:qMx s l l.length []=Ord.ordL l.length (qaq s l) l.length 0:=by
  unfold qMx
  simp[Ord.setP]
 rw[e]at h1
 generalize Ord.ordL l.length (qaq s l) l.length 0=A at*
 refine zT mix Tryz.func35 Tryz.ntmps35 Tryz.results35 rfl rfl rfl ?_;simp only[qab,Nat.reduceAdd]
 repeat'(first|refine zQ ?_|refine zF h1 ?_|fail)
 exact qif rfl rfl rfl
theorem qMZ(c:List (Nat×List Int))(hc:c.length≤256)(hr:∀x∈c,x.2.length≤8):Contract Tryz.prog 54 [.sl (c.map qhL),.sl (c.map qhL)] (.ret (.bool true)):=by
 refine zT mix Tryz.func54 Tryz.ntmps54 Tryz.results54 rfl rfl rfl ?_;simp only[qab,Nat.reduceAdd]
 repeat'(first|refine zQ ?_|(refine zC ?_ ?_<;>first|intro h|simp)|fail)
 all_goals first|(exfalso;omega)|skip
 refine qad c.length (fun i=>⟨[(5,.int .i64 i),(0,.sl (c.map qhL)),(1,.sl (c.map qhL))],[],0,71⟩) (fun i=>True) (qaa (k:=0) (ns:=[]) (ks:=[5,0,1]) [] rfl (by simp) rfl) trivial ?_
 intro i hi _
 by_cases hL:i<c.length
 rotate_left
 ·repeat'(first|(with_reducible rfl)|refine zQ ?_|(refine zI ?_;intro hlt)|(refine zC ?_ ?_<;>first|intro h|simp)|(refine zG ?_ ?_<;>first|intro h|simp)|refine zE ?_|fail)
  all_goals first|rfl|exact absurd hL (by omega)
 have hri:=hr c[i] (List.getElem_mem hL)
 repeat'(first|(with_reducible rfl)|refine zQ ?_|(refine zI ?_;intro hlt)|(refine zC ?_ ?_<;>first|intro h|simp)|(refine zG ?_ ?_<;>first|intro h|simp)|refine zE ?_|fail)
 all_goals first|exact absurd hL (by omega)|(exfalso;simp at *;done)|skip
 refine qad c[i].2.length (fun k=>⟨[(6,.int .i64 k),(5,.int .i64 i),(0,.sl (c.map qhL)),(1,.sl (c.map qhL))],[],0,71⟩) (fun i=>True) (qaa (k:=0) (ns:=[]) (ks:=[6,5,0,1]) [] rfl (by simp) rfl) trivial ?_
 intro k hk _
 by_cases hK:k<c[i].2.length
 ·repeat'(first|refine zQ ?_|(refine zI ?_;intro hlt)|(refine zC ?_ ?_<;>first|intro h|simp)|fail)
  all_goals first
   |exact absurd hK (by omega)
   |exact⟨hK,trivial,qaa (k:=0) (ns:=[]) (ks:=[6,5,0,1]) [] rfl (by simp) rfl⟩
   |(exfalso;simp at *;done)
 ·repeat'(first|refine zQ ?_|(refine zI ?_;intro hlt)|(refine zC ?_ ?_<;>first|intro h|simp)|fail)
  all_goals first
   |exact absurd (show k<c[i].2.length by assumption) hK
   |exact⟨hL,trivial,qaa (k:=0) (ns:=[]) (ks:=[5,0,1]) [] rfl (by simp) rfl⟩
theorem qMT{n:Nat}{R:Nat→Nat→Int}{s t:Nat}(hs:s<2^n){k:Nat}(hk:k≤n){arr:List Bool}(ha:arr.length=2^n)(h:arr.getD t false=true):((List.range k).foldl (Ord.stepR R s) arr).getD t false=true:=
 (Ord.qql hs _ _ ha fun j hj=>by have:=List.mem_range.1 hj;omega).2 (.inl h)
theorem qMN(s:Site)(hz:Sized s)(hs:OkSite s)(h100:s.bed.levels.length≤100)(l:List Cut)(hll:l.length≤8)(hl:∀i (hi:i<l.length),OkCut s l[i]):Contract Tryz.prog 131 [.agg (encSite s),.sl (l.map encCut)] (.ret (.sl ((Ord.ql4 l.length (qaq s l) (2^l.length)).map qBT))):=by
 obtain⟨N,hN⟩:∃N,N=2^l.length:=⟨_,rfl⟩
 have hp8:=qy6 hll
 rw[←hN]at hp8 ⊢
 have hal:∀i,(Ord.ql4 l.length (qaq s l) i).length=N:=fun i=>by rw[hN];exact Ord.qow i
 refine zT mix Tryz.func131 Tryz.ntmps131 Tryz.results131 rfl rfl rfl ?_;simp only[qab,Nat.reduceAdd]
 repeat'(first|((with_reducible apply qce);rfl;rfl;rfl;omega)|refine zS ?_|refine zA ?_|fail)
 rw[←hN]
 refine qfN (len:=N) (z:=.bool false) rfl rfl (by kernel_rfl) rfl rfl (by kernel_rfl) (by omega) rfl ?_
 rw[show List.replicate N (qai (D.bool false))=(List.replicate N false).map qBT by simp[qBT,qai]]
 repeat'(first|refine zQ ?_|fail)
 refine qhs (i:=0) rfl rfl rfl rfl rfl rfl ⟨by omega,by simp⟩ fun hlt=>?_
 repeat'(first|refine zA ?_|fail)
 refine qaF (f:=qBT) (l:=List.replicate N false) (a:=true) rfl rfl rfl (by simp;omega) rfl rfl rfl rfl (Nat.le_refl _) rfl ?_
 rw[show((List.replicate N false).set 0 true).map qBT=(Ord.ql4 l.length (qaq s l) 0).map qBT by rw[hN];rfl]
 repeat'(first|refine zQ ?_|fail)
 refine qad N (fun i=>⟨[(6,.int .i64 i),(5,.os 1 0 N),(1,.sl (l.map encCut)),(2,.op 0 0 0)],[(1,⟨1,true,(Ord.ql4 l.length (qaq s l) i).map qBT⟩),(0,⟨12,true,[encSite s]⟩)],64,52⟩) (fun i=>True) ?_ trivial ?_
 ·exact qaa (nx:=64) (k:=0) (ns:=[]) (ks:=[6,5,1,2]) [(160,1),(0,0)] rfl (by simp) (by kernel_rfl)
 intro i hi _
 have hal1:=hal i
 by_cases hL:i<N
 rotate_left
 ·obtain rfl:i=N:=by omega
  repeat'(first|refine zQ ?_|(refine zC ?_ ?_<;>first|intro h|simp)|fail)
  all_goals try exact absurd (show i<i by omega) hL
  exact qwU (f:=qBT) (l:=Ord.ql4 l.length (qaq s l) i) rfl rfl hal1.symm rfl
 have hsu:=Ord.ql5 (n:=l.length) (R:=qaq s l) i
 unfold Ord.qEb at hsu
 have hgi:∀h:i<(Ord.ql4 l.length (qaq s l) i).length,(Ord.ql4 l.length (qaq s l) i)[i]'h=(Ord.ql4 l.length (qaq s l) i).getD i false:=fun h=>by rw[List.getD_eq_getElem?_getD,List.getElem?_eq_getElem h];rfl
 cases hm:(Ord.ql4 l.length (qaq s l) i).getD i false with
 |false=>
  rw[hm]at hgi hsu
  rw[if_neg (by simp)]at hsu
  rw[hsu]
  clear hsu hm
  generalize Ord.ql4 l.length (qaq s l) i=A at*
  repeat'(first|refine zQ ?_|(refine zC ?_ ?_<;>first|intro h|simp)|fail)
  all_goals try exact absurd hL (by omega)
  refine qad 0 (fun k=>⟨[(7,.int .i64 k),(6,.int .i64 i),(5,.os 1 0 N),(1,.sl (l.map encCut)),(2,.op 0 0 0)],[(1,⟨1,true,A.map qBT⟩),(0,⟨12,true,[encSite s]⟩)],64,52⟩) (fun i=>True) ?_ trivial ?_
  ·exact qaa (nx:=64) (k:=0) (ns:=[]) (ks:=[7,6,5,1,2]) [(1,1),(0,0)] rfl (by simp) (by kernel_rfl)
  intro k hk _
  obtain rfl:k=0:=by omega
  repeat'(first|refine zQ ?_|(refine zI ?_;intro hlt)|(refine zC ?_ ?_<;>first|intro h|simp)|(refine zG ?_ ?_<;>first|intro h|simp)|((with_reducible apply qaz);rfl;rfl)|fail)
  all_goals first
   |exact absurd hL (by omega)
   |(exfalso;simp[hgi]at *;done)
   |exact⟨hL,trivial,qaa (nx:=64) (k:=0) (ns:=[]) (ks:=[6,5,1,2]) [(1,1),(0,0)] rfl (by simp) (by kernel_rfl)⟩
 |true=>
  rw[hm]at hgi hsu
  rw[if_pos rfl]at hsu
  have hkeep:=fun k (hk:k≤l.length)=>qMT (R:=qaq s l) (s:=i) (by omega) hk (by rw[hal1,hN]) hm
  repeat'(first|refine zQ ?_|(refine zC ?_ ?_<;>first|intro h|simp)|fail)
  all_goals try exact absurd hL (by omega)
  refine qad l.length (fun k=>⟨[(7,.int .i64 k),(6,.int .i64 i),(5,.os 1 0 N),(1,.sl (l.map encCut)),(2,.op 0 0 0)],[(1,⟨1,true,((List.range k).foldl (Ord.stepR (qaq s l) i) (Ord.ql4 l.length (qaq s l) i)).map qBT⟩),(0,⟨12,true,[encSite s]⟩)],64,52⟩) (fun i=>True) ?_ trivial ?_
  ·exact qaa (nx:=64) (k:=0) (ns:=[]) (ks:=[7,6,5,1,2]) [(1,1),(0,0)] rfl (by simp) (by kernel_rfl)
  intro k hk _
  have hfl:((List.range k).foldl (Ord.stepR (qaq s l) i) (Ord.ql4 l.length (qaq s l) i)).length=N:=by rw[Ord.qqk];exact hal i
  have hkk:=hkeep k hk
  by_cases hK:k<l.length
  rotate_left
  ·obtain rfl:k=l.length:=by omega
   repeat'(first|refine zQ ?_|(refine zI ?_;intro hlt)|(refine zC ?_ ?_<;>first|intro h|simp)|(refine zG ?_ ?_<;>first|intro h|simp)|((with_reducible apply qaz);rfl;rfl)|fail)
   all_goals try exact absurd (show l.length<l.length by omega) hK
   refine⟨hL,trivial,?_⟩
   rw[←hsu]
   exact qaa (nx:=64) (k:=0) (ns:=[]) (ks:=[6,5,1,2]) [(1,1),(0,0)] rfl (by simp) (by kernel_rfl)
  have h1:=qFQ s hz hs h100 l hll hl i (by omega) k hK
  have hfs:(List.range (k+1)).foldl (Ord.stepR (qaq s l) i) (Ord.ql4 l.length (qaq s l) i)=Ord.stepR (qaq s l) i ((List.range k).foldl (Ord.stepR (qaq s l) i) (Ord.ql4 l.length (qaq s l) i)) k:=by
   rw[List.range_succ,List.foldl_append];rfl
  rw[hfs]
  generalize (List.range k).foldl (Ord.stepR (qaq s l) i) (Ord.ql4 l.length (qaq s l) i)=A at*
  have hAi:∀h:i<A.length,A[i]'h=true:=fun h=>by
   rw[List.getD_eq_getElem?_getD,List.getElem?_eq_getElem h]at hkk
   exact hkk
  have hpk:2^k<N:=by have:=Nat.pow_lt_pow_right (a:=2) (by omega) hK;omega
  have hnx:Ord.nx (qaq s l) i k=(!qiF i k&&decide (qaq s l i k=0)):=by unfold Ord.nx;rw[qju]
  cases hb:qiF i k with
  |true=>
   have hmm:i/2^k%2=1:=of_decide_eq_true hb
   rw[show Ord.stepR (qaq s l) i A k=A by unfold Ord.stepR;rw[if_neg (by rw[hnx,hb];simp)]]
   repeat'(first|((with_reducible apply qce);rfl;rfl;rfl;omega)|((with_reducible apply qdx);rfl;rfl;rfl;omega)|refine zS ?_|refine zA ?_|refine zF h1 ?_|(refine zI ?_;intro hlt)|(refine zC ?_ ?_<;>first|intro h|simp)|(refine zG ?_ ?_<;>first|intro h|simp)|((with_reducible apply qaz);rfl;rfl)|fail)
   all_goals first
    |exact absurd hK (by omega)
    |(exfalso;simp only[tm2]at *;omega)
    |exact⟨hK,trivial,qaa (nx:=64) (k:=0) (ns:=[]) (ks:=[7,6,5,1,2]) [(1,1),(0,0)] rfl (by simp) (by kernel_rfl)⟩
    |(exfalso;simp[hAi]at *;done)
  |false=>
   have hmm:¬i/2^k%2=1:=of_decide_eq_false hb
   have hrt:qaq s l i k=qou s l i k:=if_pos hb
   rw[hrt,hb]at hnx
   generalize qou s l i k=rk at*
   by_cases hr:rk=0
   ·have hst:Ord.stepR (qaq s l) i A k=A.set (i+2^k) true:=by
     unfold Ord.stepR
     rw[if_pos (by rw[hnx,hr];rfl),Ord.or_add (by rw[←qju];exact hb)]
    rw[hst]
    subst hr
    have hor:i+2^k<N:=by rw[←Ord.or_add (by rw[←qju];exact hb),hN];exact Ord.qqj (by omega) hK
    have hb3: -9223372036854775808≤(i:Int)+((2^k:Nat):Int)∧(i:Int)+((2^k:Nat):Int)≤9223372036854775807:=by
     clear hst
     generalize 2^k=p at*
     omega
    repeat'(first|((with_reducible apply qce);rfl;rfl;rfl;omega)|((with_reducible apply qdx);rfl;rfl;rfl;omega)|refine zS ?_|refine zA ?_|refine zF h1 ?_|(refine zI ?_;intro hlt)|(refine zC ?_ ?_<;>first|intro h|simp)|(refine zG ?_ ?_<;>first|intro h|simp)|fail)
    all_goals first
     |exact absurd hK (by omega)
     |(exfalso;simp only[tm2]at *;omega)
     |(exfalso;simp[hAi]at *;done)
     |skip
    refine qhs (i:=i+2^k) rfl rfl rfl rfl rfl rfl ⟨hor,Nat.le_of_eq hfl.symm⟩ fun hlt=>?_
    repeat'(first|refine zA ?_|fail)
    refine qaF (f:=qBT) (l:=A) (a:=true) rfl rfl rfl (by rw[hfl];exact hor) rfl rfl rfl rfl (Nat.le_refl _) rfl ?_
    repeat'(first|refine zQ ?_|fail)
    exact⟨hK,trivial,qaa (nx:=64) (k:=0) (ns:=[]) (ks:=[7,6,5,1,2]) [(1,1),(0,0)] rfl (by simp) (by kernel_rfl)⟩
   ·rw[show Ord.stepR (qaq s l) i A k=A by unfold Ord.stepR;rw[if_neg (by rw[hnx];simp[hr])]]
    repeat'(first|((with_reducible apply qce);rfl;rfl;rfl;omega)|((with_reducible apply qdx);rfl;rfl;rfl;omega)|refine zS ?_|refine zA ?_|refine zF h1 ?_|(refine zI ?_;intro hlt)|(refine zC ?_ ?_<;>first|intro h|simp)|(refine zG ?_ ?_<;>first|intro h|simp)|fail)
    all_goals first
     |exact absurd hK (by omega)
     |(exfalso;simp only[tm2]at *;omega)
     |exact absurd (by assumption) hr
     |exact⟨hK,trivial,qaa (nx:=64) (k:=0) (ns:=[]) (ks:=[7,6,5,1,2]) [(1,1),(0,0)] rfl (by simp) (by kernel_rfl)⟩
     |(exfalso;simp[hAi]at *;done)
theorem qNa{H:Nat→Option Blk}{i:Int}{b len:Nat}{rows:List (List D)}(hb:H b=some ⟨1,true,rows⟩)(hl:rows.length=len):pur H 64 (.agg [.int .i64 i,.os b 0 len])=some (.agg [.int .i64 i,.sl rows]):=by
 show((pur H 62 _).bind fun x'=>((pur H 61 _).bind fun y'=>(qbX H 61 []).map (y':: ·)).map (x':: ·)).map D.agg=_
 rw[qBf hb hl]
 rfl
def qM5(R:Nat→Nat→Int)(i k:Nat):List Int:=(List.range k).map (R i)
theorem qMK{R:Nat→Nat→Int}{i k:Nat}:qM5 R i (k+1)=qM5 R i k++[R i k]:=by simp[qM5,List.range_succ]
theorem qMP{R:Nat→Nat→Int}{i k:Nat}:(qM5 R i k).length=k:=by simp[qM5]
def qNf(s:Site)(l:List Cut)(A:List Bool)(out:List (Nat×List Int))(R:Nat→Nat→Int)(i:Nat):Nat→St
 |0=>⟨[(9,.int .i64 ((0:Nat):Int)),(8,.op 2 0 0),(7,.int .i64 i),(6,.os 1 0 out.length),(5,.sl (A.map qBT)),(1,.sl (l.map encCut)),(2,.op 0 0 0)],[(2,⟨2,false,[[.int .i64 i,.nilsl]]⟩),(1,⟨2,true,out.map qhL⟩),(0,⟨12,true,[encSite s]⟩)],96,54⟩
 |k+1=>⟨[(9,.int .i64 ((k+1:Nat):Int)),(8,.op 2 0 0),(7,.int .i64 i),(6,.os 1 0 out.length),(5,.sl (A.map qBT)),(1,.sl (l.map encCut)),(2,.op 0 0 0)],[(2,⟨2,false,[[.int .i64 i,.os 3 0 (k+1)]]⟩),(3,⟨1,true,(qM5 R i (k+1)).map qal⟩),(1,⟨2,true,out.map qhL⟩),(0,⟨12,true,[encSite s]⟩)],128,54⟩
theorem qNb(s:Site)(hz:Sized s)(hs:OkSite s)(h100:s.bed.levels.length≤100)(l:List Cut)(hll:l.length≤8)(hn0:0<l.length)(hl:∀i (hi:i<l.length),OkCut s l[i]):Contract Tryz.prog 55 [.agg (encSite s),.sl (l.map encCut)] (.ret (.sl ((qdg l.length (qaq s l) (2^l.length)).map qhL))):=by
 have h1:=qMN s hz hs h100 l hll hl
 obtain⟨N,hN⟩:∃N,N=2^l.length:=⟨_,rfl⟩
 have hp8:=qy6 hll
 rw[←hN]at hp8 h1 ⊢
 have hAl:(Ord.ql4 l.length (qaq s l) N).length=N:=by rw[hN];exact Ord.qow _
 have hAg:∀i (hi:i<N) (h:i<(Ord.ql4 l.length (qaq s l) N).length),(Ord.ql4 l.length (qaq s l) N)[i]'h=(Ord.ql4 l.length (qaq s l) i).getD i false:=fun i hi h=>by
  rw[←Ord.qNe (s:=N) (t:=i) (by omega) (by omega),List.getD_eq_getElem?_getD,List.getElem?_eq_getElem h];rfl
 generalize Ord.ql4 l.length (qaq s l) N=A at*
 refine zT mix Tryz.func55 Tryz.ntmps55 Tryz.results55 rfl rfl rfl ?_;simp only[qab,Nat.reduceAdd]
 repeat'(first|refine zQ ?_|refine zF h1 ?_|fail)
 refine qad N (fun i=>⟨[(6,.os 1 0 (qdg l.length (qaq s l) i).length),(7,.int .i64 i),(5,.sl (A.map qBT)),(1,.sl (l.map encCut)),(2,.op 0 0 0)],[(1,⟨2,true,(qdg l.length (qaq s l) i).map qhL⟩),(0,⟨12,true,[encSite s]⟩)],64,54⟩) (fun i=>True) ?_ trivial ?_
 ·exact qaa (nx:=64) (k:=2) (ns:=[(6,1)]) (ks:=[7,5,1,2]) [(0,0)] rfl (by simp;rfl) (by kernel_rfl)
 intro i hi _
 by_cases hL:i<N
 rotate_left
 ·obtain rfl:i=N:=by omega
  repeat'(first|refine zQ ?_|(refine zI ?_;intro hlt)|(refine zC ?_ ?_<;>first|intro h|simp)|fail)
  all_goals first
   |exact absurd (show i<i by omega) hL
   |exact qwU (f:=qhL) (l:=qdg l.length (qaq s l) i) rfl rfl rfl rfl
 have hpl:=qyK (n:=l.length) (R:=qaq s l) (m:=i)
 have hAi:=hAg i hL
 cases hm:(Ord.ql4 l.length (qaq s l) i).getD i false with
 |false=>
  rw[hm]at hAi
  rw[qAM hm]
  repeat'(first|refine zQ ?_|(refine zI ?_;intro hlt)|(refine zC ?_ ?_<;>first|intro h|simp)|fail)
  all_goals first
   |exact absurd hL (by omega)
   |(exfalso;simp[hAi]at *;done)
   |exact⟨hL,trivial,qaa (nx:=64) (k:=0) (ns:=[]) (ks:=[6,7,5,1,2]) [(1,1),(0,0)] rfl (by simp) (by kernel_rfl)⟩
 |true=>
  rw[hm]at hAi
  have hpy:=qyJ hm
  repeat'(first|refine zQ ?_|(refine zI ?_;intro hlt)|(refine zC ?_ ?_<;>first|intro h|simp)|fail)
  all_goals first
   |exact absurd hL (by omega)
   |(exfalso;simp[hAi]at *;done)
   |skip
  refine qad l.length (qNf s l A (qdg l.length (qaq s l) i) (qaq s l) i) (fun k=>True) ?_ trivial ?_
  ·exact qaa (nx:=96) (k:=0) (ns:=[]) (ks:=[9,8,7,6,5,1,2]) [(416,2),(1,1),(0,0)] rfl (by simp) (by kernel_rfl)
  intro k hk _
  by_cases hK:k<l.length
  rotate_left
  ·obtain⟨j,rfl⟩:∃j,k=j+1:=⟨k-1,by omega⟩
   have ej:j+1=l.length:=by omega
   dsimp only[qNf]
   repeat'(first|((with_reducible (show evG _ _ (.region 15 _ _) _ _));(with_reducible apply qMQ))|refine zS ?_|refine zA ?_|(refine zC ?_ ?_<;>first|intro h|simp)|((with_reducible apply qaz);rfl;rfl)|fail)
   all_goals try exact absurd (show j+1<l.length by omega) hK
   refine qss ?_
   repeat'(first|refine zA ?_|fail)
   refine qkd ?_
   refine qss ?_
   repeat'(first|refine zA ?_|fail)
   refine qkd ?_
   simp only[Nat.reduceAdd,Nat.reduceMul]
   refine qst _ (qm3 [3] [(50,.agg [.int .i64 i,.sl ((qM5 (qaq s l) i (j+1)).map qal)])] ?_) ?_
   ·intro x hx
    simp only[List.mem_singleton]at hx
    subst hx
    exact qNa rfl (by rw[List.length_map,qMP])
   have er:qM5 (qaq s l) i (j+1)=qfA l.length (qaq s l) i:=by rw[ej];rfl
   rw[er]
   repeat'(first|refine zA ?_|fail)
   refine qhy (f:=qhL) (a:=(i,qfA l.length (qaq s l) i)) (l:=qdg l.length (qaq s l) i) qBU rfl rfl rfl rfl rfl rfl (by kernel_rfl) (by kernel_rfl) (by omega) rfl ?_
   have epy:(qdg l.length (qaq s l) i).length+1=(qdg l.length (qaq s l) (i+1)).length:=by rw[hpy];simp
   rw[←hpy,epy]
   repeat'(first|refine zQ ?_|fail)
   exact⟨hL,trivial,qaa (nx:=64) (k:=0) (ns:=[]) (ks:=[6,7,5,1,2]) [(1,1),(0,0)] rfl (by simp) (by kernel_rfl)⟩
  have h2:=qFQ s hz hs h100 l hll hl i (by omega) k hK
  have hn:∃v,qaq s l i k=v∧((qiF i k=true∧v=0)∨(qiF i k=false∧v=qou s l i k)):=by
   refine⟨_,rfl,?_⟩
   cases hb:qiF i k with
   |true=>exact .inl ⟨rfl,if_neg (by rw[hb];simp)⟩
   |false=>exact .inr ⟨rfl,if_pos hb⟩
  obtain⟨v,hv,hn⟩:=hn
  cases k with
  |zero=>
   dsimp only[qNf]
   rw[qMK,hv]
   rcases hn with⟨hb,rfl⟩|⟨hb,rfl⟩
   all_goals
    first
     |have hmm:i/2^0%2=1:=of_decide_eq_true hb
     |have hmm:¬i/2^0%2=1:=of_decide_eq_false hb
    generalize qou s l i 0=rk at*
    repeat'(first|((with_reducible apply qdx);rfl;rfl;rfl;omega)|refine zS ?_|refine zA ?_|refine zF h2 ?_|(refine zC ?_ ?_<;>first|intro h|simp)|fail)
    all_goals first
     |exact absurd hK (by omega)
     |(exfalso;simp only[tm2]at *;omega)
     |skip
    refine qcd (qfn (f:=qal) qbL rfl rfl rfl rfl (by kernel_rfl) (by kernel_rfl)) rfl ?_
    repeat'(first|refine zQ ?_|fail)
    refine⟨hK,trivial,?_⟩
   ·exact qaa (nx:=128) (k:=0) (ns:=[]) (ks:=[9,8,7,6,5,1,2]) [(2,2),(544,3),(1,1),(0,0)] rfl (by simp) (by kernel_rfl)
   ·exact qaa (nx:=128) (k:=0) (ns:=[]) (ks:=[9,8,7,6,5,1,2]) [(2,2),(736,3),(1,1),(0,0)] rfl (by simp) (by kernel_rfl)
  |succ j=>
   dsimp only[qNf]
   have hsu:=qMK (R:=qaq s l) (i:=i) (k:=j+1)
   rw[hv]at hsu
   rw[hsu]
   have hrl:=qMP (R:=qaq s l) (i:=i) (k:=j+1)
   generalize qM5 (qaq s l) i (j+1)=rw1 at*
   rcases hn with⟨hb,rfl⟩|⟨hb,rfl⟩
   all_goals
    first
     |have hmm:i/2^(j+1)%2=1:=of_decide_eq_true hb
     |have hmm:¬i/2^(j+1)%2=1:=of_decide_eq_false hb
    generalize qou s l i (j+1)=rk at*
    repeat'(first|((with_reducible apply qdx);rfl;rfl;rfl;omega)|refine zS ?_|refine zA ?_|refine zF h2 ?_|(refine zC ?_ ?_<;>first|intro h|simp)|fail)
    all_goals first
     |exact absurd hK (by omega)
     |(exfalso;simp only[tm2]at *;omega)
     |skip
    refine qaH (f:=qal) (l:=rw1) qbL rfl rfl rfl hrl rfl rfl (by kernel_rfl) (by kernel_rfl) (by omega) rfl ?_
    repeat'(first|refine zQ ?_|fail)
    exact⟨hK,trivial,qaa (nx:=128) (k:=0) (ns:=[]) (ks:=[9,8,7,6,5,1,2]) [(2,2),(3,3),(1,1),(0,0)] rfl (by simp) (by kernel_rfl)⟩
theorem law_orders(s:Site)(hw:Wide s)(l:List Cut)(hl:l.length≤9223372036854775807):Contract Tryz.prog 9 [.agg (encSite s),.sl (l.map encCut)] (.ret (.bool true)):=by
 have h0:=qoC
 have h1:=qkv s hw
 have h2:Contract Tryz.prog 21 [.sl (l.map encCut),.int .i64 12] (.ret (.bool (qvG l 12))):=qAN l hl 12 (by omega)
 have h3:=qFV l hl
 cases hs:qmv s with
 |false=>
  rw[hs]at h1
  refine zT mix Tryz.func9 Tryz.ntmps9 Tryz.results9 rfl rfl rfl ?_;simp only[qab,Nat.reduceAdd]
  repeat'(first|(with_reducible rfl)|refine zQ ?_|refine zF h0 ?_|refine zF h1 ?_|refine zE ?_|fail)
  all_goals first|rfl|(exfalso;simp at *;done)
 |true=>
 rw[hs]at h1
 obtain⟨hz,h16,hd8,_,_,_⟩:=qgZ hw hs
 cases hf:qvG l 12 with
 |false=>
  rw[hf]at h2
  refine zT mix Tryz.func9 Tryz.ntmps9 Tryz.results9 rfl rfl rfl ?_;simp only[qab,Nat.reduceAdd]
  repeat'(first|(with_reducible rfl)|refine zQ ?_|refine zF h0 ?_|refine zF h1 ?_|refine zF h2 ?_|refine zE ?_|fail)
  all_goals first|rfl|(exfalso;simp at *;done)
 |true=>
 rw[hf]at h2
 cases hm:qAX l with
 |false=>
  rw[hm]at h3
  refine zT mix Tryz.func9 Tryz.ntmps9 Tryz.results9 rfl rfl rfl ?_;simp only[qab,Nat.reduceAdd]
  repeat'(first|(with_reducible rfl)|refine zQ ?_|refine zF h0 ?_|refine zF h1 ?_|refine zF h2 ?_|refine zF h3 ?_|refine zE ?_|fail)
  all_goals first|rfl|(exfalso;simp at *;done)
 |true=>
 rw[hm]at h3
 have a1:=qyL s hz (by omega) (by omega) l hl
 have a2:=qfS s hz l hl (by omega)
 by_cases hall:qcy s l=0
 rotate_left
 ·have e:qvo s l=([],[],qcy s l):=if_pos hall
  rw[e]at a1
  generalize qcy s l=q at*
  refine zT mix Tryz.func9 Tryz.ntmps9 Tryz.results9 rfl rfl rfl ?_;simp only[qab,Nat.reduceAdd]
  repeat'(first|refine zQ ?_|refine zF h0 ?_|refine zF h1 ?_|refine zF h2 ?_|refine zF h3 ?_|refine zF a1 ?_|refine zF a2 ?_|(refine zC ?_ ?_<;>first|intro h|simp)|(refine zG ?_ ?_<;>first|intro h|simp)|refine zE ?_|fail)
  all_goals first|rfl|(simp;done)|(exfalso;omega)|(exfalso;simp at *;done)
 rw[hall]at a2
 by_cases h8:8<l.length
 ·have e:qvo s l=([],[],8):=by unfold qvo;rw[if_neg (not_not_intro hall),if_pos h8]
  rw[e]at a1
  refine zT mix Tryz.func9 Tryz.ntmps9 Tryz.results9 rfl rfl rfl ?_;simp only[qab,Nat.reduceAdd]
  repeat'(first|refine zQ ?_|refine zF h0 ?_|refine zF h1 ?_|refine zF h2 ?_|refine zF h3 ?_|refine zF a1 ?_|refine zF a2 ?_|(refine zC ?_ ?_<;>first|intro h|simp)|refine zE ?_|fail)
  all_goals first|rfl|(simp;done)|(exfalso;omega)|(exfalso;simp at *;done)
 obtain⟨hls,hlc⟩:=qd7 hall
 have ok:=(qcw hall).1
 have h4:l.length≤4:=by
  have:=of_decide_eq_true hm
  omega
 have b1:=qDX s hz ok (by omega) l (by omega) hlc
 cases hbr:qqA s l with
 |false=>
  rw[hbr]at b1
  generalize qvo s l=q at*
  refine zT mix Tryz.func9 Tryz.ntmps9 Tryz.results9 rfl rfl rfl ?_;simp only[qab,Nat.reduceAdd]
  repeat'(first|(with_reducible rfl)|refine zQ ?_|refine zF h0 ?_|refine zF h1 ?_|refine zF h2 ?_|refine zF h3 ?_|refine zF a1 ?_|refine zF a2 ?_|refine zF b1 ?_|(refine zC ?_ ?_<;>first|intro h|simp)|(refine zG ?_ ?_<;>first|intro h|simp)|refine zE ?_|fail)
  all_goals first|rfl|(exfalso;omega)|(exfalso;simp at *;done)
 |true=>
 rw[hbr]at b1
 have b2:=qM1 s hz ok (by omega) l h4 hlc
 have ec:qvo s l=match Ord.planO l.length (qaq s l) (fun _ _=>0) l.length 0 with
   |none=>([],qdg l.length (qaq s l) (2^l.length),11)
   |some _=>(Ord.qbn l.length (qaq s l) (fun _ _=>0) l.length 0,[],0):=by unfold qvo;rw[if_neg (not_not_intro hall),if_neg h8];rfl
 rw[ec]at a1
 have hp8:=qy6 (n:=l.length) (by omega)
 rcases Ord.qNc (n:=l.length) (R:=qaq s l) (m:=l.length) (s:=0)with⟨hp,he⟩|⟨hp,hA,hpa⟩
 ·rw[hp]at a1
  rw[he]at b2
  have hn0:0<l.length:=by
   rcases Nat.eq_zero_or_pos l.length with e|e
   ·rw[e]at he;simp[Ord.ordL]at he
   ·exact e
  have b3:=qNb s hz ok (by omega) l (by omega) hn0 hlc
  have hpl:=qyK (n:=l.length) (R:=qaq s l) (m:=2^l.length)
  have hrw:=qMS (n:=l.length) (R:=qaq s l) (m:=2^l.length)
  have b4:=qMZ (qdg l.length (qaq s l) (2^l.length)) (by omega) fun x hx=>by
   have:=hrw ((x.1:Int),x.2) (List.mem_map.2 ⟨x,hx,rfl⟩)
   dsimp only at this
   omega
  have b5:=qmw s hz (by omega) (by omega) l hl (toI (qdg l.length (qaq s l) (2^l.length))) (by simp only[toI,List.length_map];omega) fun x hx=>by rw[hrw x hx];omega
  rw[if_neg (not_not_intro hall),if_neg h8,qtY (qMY he),if_pos rfl,qM9]at b5
  dsimp only at a1
  generalize qdg l.length (qaq s l) (2^l.length)=pl at*
  refine zT mix Tryz.func9 Tryz.ntmps9 Tryz.results9 rfl rfl rfl ?_;simp only[qab,Nat.reduceAdd]
  repeat'(first|refine zQ ?_|refine zF h0 ?_|refine zF h1 ?_|refine zF h2 ?_|refine zF h3 ?_|refine zF a1 ?_|refine zF a2 ?_|refine zF b1 ?_|refine zF b2 ?_|refine zF b3 ?_|refine zF b4 ?_|refine zF b5 ?_|(refine zC ?_ ?_<;>first|intro h|simp)|refine zE ?_|fail)
  all_goals first|rfl|(simp;done)|(exfalso;omega)|(exfalso;simp at *;done)
 ·rw[hp]at a1
  dsimp only at a1
  rw[hpa]at a1
  have hmem:=qDD (List.getElem_mem hA)
  have b3:=qyR (Ord.ordL l.length (qaq s l) l.length 0)[0] (by omega)
  generalize Ord.ordL l.length (qaq s l) l.length 0=A at*
  refine zT mix Tryz.func9 Tryz.ntmps9 Tryz.results9 rfl rfl rfl ?_;simp only[qab,Nat.reduceAdd]
  repeat'(first|refine zQ ?_|refine zF h0 ?_|refine zF h1 ?_|refine zF h2 ?_|refine zF h3 ?_|refine zF a1 ?_|refine zF a2 ?_|refine zF b1 ?_|refine zF b2 ?_|refine zF b3 ?_|(refine zI ?_;intro hlt)|(refine zC ?_ ?_<;>first|intro h|simp)|refine zE ?_|fail)
  all_goals first|rfl|(simp;done)|(exfalso;omega)|(exfalso;simp at *;done)
end Go.Pv.Soil

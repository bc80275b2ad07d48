import Derived.Test.YtfklpkgdobdbpaaGreatCBJ
import Derived.Test.YtfklpkgdobdbpaaGreatCBM
/- Part of the proofs over YtfklpkgdobdbpaaGreat: N28. -/
set_option linter.unusedVariables false
set_option linter.unusedSimpArgs false
set_option linter.unnecessarySimpa false
open Go Go.Proofs Go.Pv
set_option maxHeartbeats 8000000
set_option maxRecDepth 100000
set_option linter.unusedSimpArgs false
set_option linter.unusedVariables false
namespace Go.Pv.Soil
theorem qnl{s:Site}{b:Grid}(h:qbR s.bed b=true):b.x=s.bed.x∧b.y=s.bed.y∧b.side=s.bed.side∧b.cols=s.bed.cols∧b.rows=s.bed.rows:=by
 obtain⟨h1,h2,h3,h4,h5⟩:=of_decide_eq_true h
 exact⟨h1.symm,h2.symm,h3.symm,h4.symm,h5.symm⟩
theorem qeK{s:Site}{b:Grid}(h:qbR s.bed b=true)(i:Nat):qar b i=qar s.bed i:=by
 obtain⟨h1,h2,h3,h4,h5⟩:=qnl h
 simp only[qar,h1,h2,h3,h4]
theorem qrB{l:List Gauge}(hg:OkGauges l){x f:Int}:∀n,(-240000004000000000≤(qeJ l x f n).2∧(qeJ l x f n).2≤240000004000000000)
 |0=>by simp[qeJ]
 |n+1=>by
  have h1:=qrB hg (x:=x) (f:=f) n
  have h2:=(qBM hg (x:=x) (t:=f)).2
  have h3:=(qBM hg (x:=x) (t:=f+n)).2
  unfold qeJ
  split
  ·exact h2
  ·simp only;omega
def qca(s:Site)(c:Cut)(n i:Nat):Int:=if qfu s.gauges (qar s.bed i).x c.start n then(if(qeJ s.gauges (qar s.bed i).x c.start n).2-c.level≤(dredOf s c.dredger).depth then 0 else 16)else 11
def qeR(e:Nat→Int)(l:List Nat):Option (Int×Int):=(l.find? fun i=>decide (e i≠0)).map fun(i:Nat)=>(e i,(i:Int))
theorem qkr{e:Nat→Int}{r:Int}{l:List Nat}{i:Nat}(hi:i<l.length)(hC:∀j (hj:j<l.length),j<i→e l[j]=0)(h:e l[i]=r)(h0:r≠0):qeR e l=some (r,(l[i]:Int)):=by
 have:l.find? (fun i=>decide (e i≠0))=some l[i]:=by
  rw[List.find?_eq_some_iff_getElem]
  exact⟨by rw[h];exact decide_eq_true h0,i,hi,rfl,fun j hj=>by rw[hC j (by omega) hj];rfl⟩
 rw[qeR,this];simp[h]
theorem qc1{e:Nat→Int}{l:List Nat}(hC:∀j (hj:j<l.length),e l[j]=0):qeR e l=none:=by
 have:l.find? (fun i=>decide (e i≠0))=none:=by
  rw[List.find?_eq_none]
  intro x hx
  obtain⟨j,hj,rfl⟩:=List.mem_iff_getElem.1 hx
  rw[hC j hj];simp
 rw[qeR,this];rfl
theorem qx6{e:Nat→Int}{l:List Nat}{i:Nat}(hC:∀j (hj:j<l.length),j<i→e l[j]=0)(h:∀(hL:i<l.length),e l[i]=0):∀j (hj:j<l.length),j<i+1→e l[j]=0:=fun j hj hji=>by
 rcases Nat.lt_succ_iff_lt_or_eq.1 hji with h'|rfl
 ·exact hC j hj h'
 ·exact h hj
theorem qx7{s:Site}{c:Cut}{n i:Nat}(h:qfu s.gauges (qar s.bed i).x c.start n)(h2:(qeJ s.gauges (qar s.bed i).x c.start n).2-c.level≤(dredOf s c.dredger).depth):qca s c n i=0:=by rw[qca,if_pos h,if_pos h2]
theorem qtq{s:Site}{c:Cut}{n i:Nat}(h:qfu s.gauges (qar s.bed i).x c.start n)(h2:¬(qeJ s.gauges (qar s.bed i).x c.start n).2-c.level≤(dredOf s c.dredger).depth):qca s c n i=16:=by rw[qca,if_pos h,if_neg h2]
theorem qtr{s:Site}{c:Cut}{n i:Nat}(h:¬qfu s.gauges (qar s.bed i).x c.start n):qca s c n i=11:=by rw[qca,if_neg h]
theorem qDr(s:Site)(hz:Sized s)(hs:OkSite s)(b:Grid)(hb:OkBed s b)(c:Cut)(hc:OkCut s c)(cells:List Nat)(a:Grid)
  (low:List Nat) (hll:low.length≤1024) (hlo:∀j (hj:j<low.length),low[j]<b.levels.length) (n:Nat) (t:Int) (ht:t=c.start+n) (hn:0<low.length→1≤n) (hn2:n≤3000) (ht2:t≤1000001):
  Contract Tryz.prog 185 [.ptr (qbz s b c (dredOf s c.dredger) cells a low c.start t)] (qG5 (qeR (qca s c n) low)):=by
 have hM:=qx1 (qbz s b c (dredOf s c.dredger) cells a low c.start t)
 have hst:=hc.st
 have hlv:=hc.lvl
 refine zT mix Tryz.func185 Tryz.ntmps185 Tryz.results185 rfl rfl rfl ?_;simp only[qab,Nat.reduceAdd]
 repeat'(first|((with_reducible apply qao);rfl;rfl)|refine zS ?_|refine zA ?_|fail)
 refine qad low.length (fun i=>⟨[(13,.int .i64 i),(12,.int .i64 low.length),(11,.sl (low.map qcx)),(0,.ptr (qbz s b c (dredOf s c.dredger) cells a low c.start t))],[],0,72⟩) (fun i=>∀j (hj:j<low.length),j<i→qca s c n low[j]=0) (qaa (nx:=0) (k:=0) (ns:=[]) (ks:=[13,12,11,0]) [] rfl (by simp) (by kernel_rfl)) (by omega) ?_
 intro i hi hC
 by_cases hL:i<low.length
 rotate_left
 ·repeat'(first|refine zQ ?_|(refine zI ?_;intro hlt)|(refine zC ?_ ?_<;>first|intro h|simp)|fail)
  all_goals try exact absurd hL (by omega)
  rw[qc1 (fun j hj=>hC j hj (by omega))]
  exact qke
 have hil:=hlo i hL
 have h1:=c74 b hb.ok low[i] hil hb.er
 rw[qeK hb.al]at h1
 have hpt: -1000000≤(qar s.bed low[i]).x∧(qar s.bed low[i]).x≤1000000:=by
  have:=of_decide_eq_true (qdr hb.ok hil)
  rw[qeK hb.al]at this
  omega
 have h2:=qFp s.gauges hz.ga hz.ma hs.ga (qar s.bed low[i]).x c.start (t-1) n hpt (by omega) (by omega) (by omega) (by omega)
 have hsb:=qrB (qkp hs.ga) (x:=(qar s.bed low[i]).x) (f:=c.start) n
 by_cases hok:qfu s.gauges (qar s.bed low[i]).x c.start n
 ·rw[if_pos hok]at h2
  have e16:¬(qeJ s.gauges (qar s.bed low[i]).x c.start n).2-c.level≤(dredOf s c.dredger).depth→qca s c n low[i]=16:=fun h=>qtq hok h
  have e0:(qeJ s.gauges (qar s.bed low[i]).x c.start n).2-c.level≤(dredOf s c.dredger).depth→qca s c n low[i]=0:=fun h=>qx7 hok h
  generalize qeJ s.gauges (qar s.bed low[i]).x c.start n=v at*
  repeat'(first|((with_reducible (show evG _ _ (.region 6 _ _) _ _));(with_reducible apply(qdR 16));kernel_rfl;rfl)|((with_reducible apply qao);rfl;rfl)|(with_reducible apply qaW)|(with_reducible apply qbQ)|(with_reducible apply qbu)|(((with_reducible apply qck);rfl;(exact hM _ _ _);rfl;rfl)<;>(intro h;try simp only[decide_eq_true_eq,decide_eq_false_iff_not,Bool.not_eq_true',Bool.not_eq_false',Bool.not_true,Bool.not_false]at h;try exact absurd trivial h))|((with_reducible apply(qaS 24 [[22],[]]));decide +kernel;rfl)|(with_reducible apply qaR)|(with_reducible apply qav)|(with_reducible apply qas)|(with_reducible apply qby)|(with_reducible apply qaA)|(with_reducible apply qcv)|(with_reducible apply qaw)|((with_reducible apply qa9);rfl;(intro id'))|((with_reducible apply qaT);rfl)|refine zS ?_|refine zA ?_|refine zF h1 ?_|refine zF h2 ?_|(refine zI ?_;intro hlt)|(refine zC ?_ ?_<;>first|intro h|simp)|fail)
  all_goals first
   |exact absurd hL (by omega)
   |exact absurd (show false=true by assumption) (by decide)
   |(rw[qkr hL hC (e16 (by assumption)) (by decide)]
     exact qb2 rfl)
   |exact⟨hL,qx6 hC (fun _=>e0 (by assumption)),qaa (nx:=0) (k:=0) (ns:=[]) (ks:=[13,12,11,0]) [] rfl (by simp) (by kernel_rfl)⟩
   |trace_state
 ·rw[if_neg hok]at h2
  have e11:=qtr hok (c:=c)
  repeat'(first|((with_reducible apply qao);rfl;rfl)|(with_reducible apply qaW)|(with_reducible apply qbQ)|(with_reducible apply qbu)|(((with_reducible apply qck);rfl;(exact hM _ _ _);rfl;rfl)<;>(intro h;try simp only[decide_eq_true_eq,decide_eq_false_iff_not,Bool.not_eq_true',Bool.not_eq_false',Bool.not_true,Bool.not_false]at h;try exact absurd trivial h))|((with_reducible apply(qaS 24 [[22],[]]));decide +kernel;rfl)|(with_reducible apply qaR)|(with_reducible apply qav)|(with_reducible apply qas)|(with_reducible apply qby)|(with_reducible apply qaA)|(with_reducible apply qcv)|(with_reducible apply qaw)|((with_reducible apply qa9);rfl;(intro id'))|((with_reducible apply qaT);rfl)|refine zS ?_|refine zA ?_|refine zF h1 ?_|refine zF h2 ?_|(refine zI ?_;intro hlt)|(refine zC ?_ ?_<;>first|intro h|simp)|fail)
  all_goals first
   |exact absurd hL (by omega)
   |(exfalso;omega)
   |(rw[qkr hL hC e11 (by decide)]
     exact qb2 rfl)
   |trace_state
end Go.Pv.Soil

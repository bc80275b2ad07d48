import Derived.Test.YtfklpkgdobdbpaaGreatCBF
import Derived.Test.YtfklpkgdobdbpaaGreatCBJ
/- Part of the proofs over YtfklpkgdobdbpaaGreat: N28. -/
set_option linter.unusedVariables false
set_option linter.unusedSimpArgs false
set_option linter.unnecessarySimpa false
open Go Go.Proofs Go.Pv
set_option maxHeartbeats 8000000
set_option maxRecDepth 100000
set_option linter.unusedSimpArgs false
set_option linter.unusedVariables false
namespace Go.Pv.Soil
theorem qzH{s:Site}{b:Grid}(h:qbX s.bed b=true):b.x=s.bed.x∧b.y=s.bed.y∧b.side=s.bed.side∧b.cols=s.bed.cols∧b.rows=s.bed.rows:=by
 obtain⟨h1,h2,h3,h4,h5⟩:=of_decide_eq_true h
 exact⟨h1.symm,h2.symm,h3.symm,h4.symm,h5.symm⟩
theorem qk5{s:Site}{b:Grid}(h:qbX s.bed b=true)(i:Nat):qap b i=qap s.bed i:=by
 obtain⟨h1,h2,h3,h4,h5⟩:=qzH h
 simp only[qap,h1,h2,h3,h4]
theorem qqm{l:List Gauge}(hg:OkGauges l){x f:Int}:∀n,(-240000004000000000≤(qer l x f n).2∧(qer l x f n).2≤240000004000000000)
 |0=>by simp[qer]
 |n+1=>by
  have h1:=qqm hg (x:=x) (f:=f) n
  have h2:=(qzG hg (x:=x) (t:=f)).2
  have h3:=(qzG hg (x:=x) (t:=f+n)).2
  unfold qer
  split
  ·exact h2
  ·simp only;omega
def qcG(s:Site)(c:Cut)(n i:Nat):Int:=if qe2 s.gauges (qap s.bed i).x c.start n then(if(qer s.gauges (qap s.bed i).x c.start n).2-c.level≤(dredOf s c.dredger).depth then 0 else 16)else 11
def qfC(e:Nat→Int)(l:List Nat):Option (Int×Int):=(l.find? fun i=>decide (e i≠0)).map fun(i:Nat)=>(e i,(i:Int))
theorem qjL{e:Nat→Int}{r:Int}{l:List Nat}{i:Nat}(hi:i<l.length)(hC:∀j (hj:j<l.length),j<i→e l[j]=0)(h:e l[i]=r)(h0:r≠0):qfC e l=some (r,(l[i]:Int)):=by
 have:l.find? (fun i=>decide (e i≠0))=some l[i]:=by
  rw[List.find?_eq_some_iff_getElem]
  exact⟨by rw[h];exact decide_eq_true h0,i,hi,rfl,fun j hj=>by rw[hC j (by omega) hj];rfl⟩
 rw[qfC,this];simp[h]
theorem qcJ{e:Nat→Int}{l:List Nat}(hC:∀j (hj:j<l.length),e l[j]=0):qfC e l=none:=by
 have:l.find? (fun i=>decide (e i≠0))=none:=by
  rw[List.find?_eq_none]
  intro x hx
  obtain⟨j,hj,rfl⟩:=List.mem_iff_getElem.1 hx
  rw[hC j hj];simp
 rw[qfC,this];rfl
theorem qwi{e:Nat→Int}{l:List Nat}{i:Nat}(hC:∀j (hj:j<l.length),j<i→e l[j]=0)(h:∀(hL:i<l.length),e l[i]=0):∀j (hj:j<l.length),j<i+1→e l[j]=0:=fun j hj hji=>by
 rcases Nat.lt_succ_iff_lt_or_eq.1 hji with h'|rfl
 ·exact hC j hj h'
 ·exact h hj
theorem qwj{s:Site}{c:Cut}{n i:Nat}(h:qe2 s.gauges (qap s.bed i).x c.start n)(h2:(qer s.gauges (qap s.bed i).x c.start n).2-c.level≤(dredOf s c.dredger).depth):qcG s c n i=0:=by rw[qcG,if_pos h,if_pos h2]
theorem qrX{s:Site}{c:Cut}{n i:Nat}(h:qe2 s.gauges (qap s.bed i).x c.start n)(h2:¬(qer s.gauges (qap s.bed i).x c.start n).2-c.level≤(dredOf s c.dredger).depth):qcG s c n i=16:=by rw[qcG,if_pos h,if_neg h2]
theorem qrY{s:Site}{c:Cut}{n i:Nat}(h:¬qe2 s.gauges (qap s.bed i).x c.start n):qcG s c n i=11:=by rw[qcG,if_neg h]
theorem qBp(s:Site)(hz:Sized s)(hs:OkSite s)(b:Grid)(hb:OkBed s b)(c:Cut)(hc:OkCut s c)(cells:List Nat)(a:Grid)
  (low:List Nat) (hll:low.length≤1024) (hlo:∀j (hj:j<low.length),low[j]<b.levels.length) (n:Nat) (t:Int) (ht:t=c.start+n) (hn:0<low.length→1≤n) (hn2:n≤3000) (ht2:t≤1000001):
  Contract Tryz.prog 185 [.ptr (qbp s b c (dredOf s c.dredger) cells a low c.start t)] (qET (qfC (qcG s c n) low)):=by
 have hM:=qwd (qbp s b c (dredOf s c.dredger) cells a low c.start t)
 have hst:=hc.st
 have hlv:=hc.lvl
 refine zT mix Tryz.func185 Tryz.ntmps185 Tryz.results185 rfl rfl rfl ?_;simp only[qac,Nat.reduceAdd]
 repeat'(first|((with_reducible apply qao);rfl;rfl)|refine zS ?_|refine zA ?_|fail)
 refine qaf low.length (fun i=>⟨[(13,.int .i64 i),(12,.int .i64 low.length),(11,.sl (low.map qcX)),(0,.ptr (qbp s b c (dredOf s c.dredger) cells a low c.start t))],[],0,72⟩) (fun i=>∀j (hj:j<low.length),j<i→qcG s c n low[j]=0) (qaa (nx:=0) (k:=0) (ns:=[]) (ks:=[13,12,11,0]) [] rfl (by simp) (by kernel_rfl)) (by omega) ?_
 intro i hi hC
 by_cases hL:i<low.length
 rotate_left
 ·repeat'(first|refine zQ ?_|(refine zI ?_;intro hlt)|(refine zC ?_ ?_<;>first|intro h|simp)|fail)
  all_goals try exact absurd hL (by omega)
  rw[qcJ (fun j hj=>hC j hj (by omega))]
  exact qjz
 have hil:=hlo i hL
 have h1:=c74 b hb.ok low[i] hil hb.er
 rw[qk5 hb.al]at h1
 have hpt: -1000000≤(qap s.bed low[i]).x∧(qap s.bed low[i]).x≤1000000:=by
  have:=of_decide_eq_true (qda hb.ok hil)
  rw[qk5 hb.al]at this
  omega
 have h2:=qDk s.gauges hz.ga hz.ma hs.ga (qap s.bed low[i]).x c.start (t-1) n hpt (by omega) (by omega) (by omega) (by omega)
 have hsb:=qqm (qjJ hs.ga) (x:=(qap s.bed low[i]).x) (f:=c.start) n
 by_cases hok:qe2 s.gauges (qap s.bed low[i]).x c.start n
 ·rw[if_pos hok]at h2
  have e16:¬(qer s.gauges (qap s.bed low[i]).x c.start n).2-c.level≤(dredOf s c.dredger).depth→qcG s c n low[i]=16:=fun h=>qrX hok h
  have e0:(qer s.gauges (qap s.bed low[i]).x c.start n).2-c.level≤(dredOf s c.dredger).depth→qcG s c n low[i]=0:=fun h=>qwj hok h
  generalize qer s.gauges (qap s.bed low[i]).x c.start n=v at*
  repeat'(first|((with_reducible (show evG _ _ (.region 6 _ _) _ _));(with_reducible apply(qdZ 16));kernel_rfl;rfl)|((with_reducible apply qao);rfl;rfl)|(with_reducible apply qaQ)|(with_reducible apply qbA)|(with_reducible apply qbk)|(((with_reducible apply qb8);rfl;(exact hM _ _ _);rfl;rfl)<;>(intro h;try simp only[decide_eq_true_eq,decide_eq_false_iff_not,Bool.not_eq_true',Bool.not_eq_false',Bool.not_true,Bool.not_false]at h;try exact absurd trivial h))|((with_reducible apply(qba 24 [[22],[]]));decide +kernel;rfl)|(with_reducible apply qa1)|(with_reducible apply qax)|(with_reducible apply qav)|(with_reducible apply qb1)|(with_reducible apply qaF)|(with_reducible apply qc4)|(with_reducible apply qay)|((with_reducible apply qbn);rfl;(intro id'))|((with_reducible apply qa2);rfl)|refine zS ?_|refine zA ?_|refine zF h1 ?_|refine zF h2 ?_|(refine zI ?_;intro hlt)|(refine zC ?_ ?_<;>first|intro h|simp)|fail)
  all_goals first
   |exact absurd hL (by omega)
   |exact absurd (show false=true by assumption) (by decide)
   |(rw[qjL hL hC (e16 (by assumption)) (by decide)]
     exact qbM rfl)
   |exact⟨hL,qwi hC (fun _=>e0 (by assumption)),qaa (nx:=0) (k:=0) (ns:=[]) (ks:=[13,12,11,0]) [] rfl (by simp) (by kernel_rfl)⟩
   |trace_state
 ·rw[if_neg hok]at h2
  have e11:=qrY hok (c:=c)
  repeat'(first|((with_reducible apply qao);rfl;rfl)|(with_reducible apply qaQ)|(with_reducible apply qbA)|(with_reducible apply qbk)|(((with_reducible apply qb8);rfl;(exact hM _ _ _);rfl;rfl)<;>(intro h;try simp only[decide_eq_true_eq,decide_eq_false_iff_not,Bool.not_eq_true',Bool.not_eq_false',Bool.not_true,Bool.not_false]at h;try exact absurd trivial h))|((with_reducible apply(qba 24 [[22],[]]));decide +kernel;rfl)|(with_reducible apply qa1)|(with_reducible apply qax)|(with_reducible apply qav)|(with_reducible apply qb1)|(with_reducible apply qaF)|(with_reducible apply qc4)|(with_reducible apply qay)|((with_reducible apply qbn);rfl;(intro id'))|((with_reducible apply qa2);rfl)|refine zS ?_|refine zA ?_|refine zF h1 ?_|refine zF h2 ?_|(refine zI ?_;intro hlt)|(refine zC ?_ ?_<;>first|intro h|simp)|fail)
  all_goals first
   |exact absurd hL (by omega)
   |(exfalso;omega)
   |(rw[qjL hL hC e11 (by decide)]
     exact qbM rfl)
   |trace_state
end Go.Pv.Soil

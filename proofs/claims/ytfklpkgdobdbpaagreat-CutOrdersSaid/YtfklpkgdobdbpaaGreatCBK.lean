import Derived.Test.YtfklpkgdobdbpaaGreatCAX
/- Part of the proofs over YtfklpkgdobdbpaaGreat: N21, N22. -/
set_option linter.unusedVariables false
set_option linter.unusedSimpArgs false
set_option linter.unnecessarySimpa false
open Go Go.Proofs Go.Pv
set_option maxHeartbeats 8000000
set_option maxRecDepth 100000
set_option linter.unusedSimpArgs false
set_option linter.unusedVariables false
namespace Go.Pv.Soil
def ixM(l:List Mark)(t:Int):Nat:=l.findIdx fun m=>decide (t≤m.minute)
theorem qrv{α:Type}{f:α→Int}{l:List α}{t:Int}{i:Nat}(hi:i≤l.length)(h1:∀j (hj:j<i) (hj':j<l.length),f l[j]<t)(h2:∀h:i<l.length,t≤f l[i]):(l.findIdx fun m=>decide (t≤f m))=i:=by
 rcases Nat.lt_or_ge i l.length with h|h
 ·exact(List.findIdx_eq h).2 ⟨decide_eq_true (h2 h),fun j hj=>by have:=h1 j hj (by omega);simp;omega⟩
 ·obtain rfl:i=l.length:=by omega
  refine List.findIdx_eq_length.2 fun z hz=>?_
  obtain⟨j,hj,rfl⟩:=List.mem_iff_getElem.1 hz
  have:=h1 j hj hj
  simp;omega
theorem qkq{α:Type}{f:α→Int}(l:List α)(t:Int):(l.findIdx fun m=>decide (t≤f m))≤l.length∧(∀j (hj:j<l.findIdx fun m=>decide (t≤f m)) (hj':j<l.length),f l[j]<t)∧∀h:(l.findIdx fun m=>decide (t≤f m))<l.length,t≤f (l[l.findIdx fun m=>decide (t≤f m)]'h):=by
 refine⟨List.findIdx_le_length,fun j hj hj'=>?_,fun h=>?_⟩
 ·have:=List.not_of_lt_findIdx hj
  simp at this;omega
 ·have:=List.findIdx_getElem (w:=h)
  exact of_decide_eq_true this
def qds(l:List Mark)(t:Int):Int×Int×Bool:=match l[ixM l t]? with
 |none=>(0,1,false)
 |some b=>if b.minute=t then(b.level,1,true)else match l[ixM l t-1]? with
  |none=>(0,1,false)
  |some a=>if ixM l t=0 then(0,1,false)else(a.level*(b.minute-a.minute)+(b.level-a.level)*(t-a.minute),b.minute-a.minute,true)
theorem qlO{l:List Mark}{t:Int}(h:ixM l t=l.length):qds l t=(0,1,false):=by
 unfold qds;rw[h,List.getElem?_eq_none (Nat.le_refl _)]
theorem qom{l:List Mark}{t:Int}{i:Nat}(h:ixM l t=i)(hi:i<l.length)(h2:l[i].minute=t):qds l t=(l[i].level,1,true):=by
 unfold qds;rw[h,List.getElem?_eq_getElem hi];simp only[if_pos h2]
theorem qlP{l:List Mark}{t:Int}(h:ixM l t=0)(hi:0<l.length)(h2:¬l[0].minute=t):qds l t=(0,1,false):=by
 unfold qds;rw[h,List.getElem?_eq_getElem hi];simp only[if_neg h2];simp[hi]
theorem qon{l:List Mark}{t:Int}{i j:Nat}(h:ixM l t=i)(hj:j+1=i)(hi:i<l.length)(h2:¬l[i].minute=t):
  qds l t=((l[j]'(by omega)).level*(l[i].minute-(l[j]'(by omega)).minute)+(l[i].level-(l[j]'(by omega)).level)*(t-(l[j]'(by omega)).minute),l[i].minute-(l[j]'(by omega)).minute,true):=by
 obtain rfl:j=i-1:=by omega
 unfold qds;rw[h,List.getElem?_eq_getElem hi];simp only[if_neg h2];rw[List.getElem?_eq_getElem (by omega)];simp only[if_neg (show ¬i=0 by omega)]
theorem qfO{a b A B:Int}(ha: -A≤a∧a≤A)(hb:0≤b∧b≤B): -(A*B)≤a*b∧a*b≤A*B:=by
 have h1:=Int.mul_le_mul_of_nonneg_right ha.2 hb.1
 have h2:=Int.mul_le_mul_of_nonneg_right ha.1 hb.1
 have h3:=Int.mul_le_mul_of_nonneg_left hb.2 (show 0≤A by omega)
 rw[Int.neg_mul]at h2
 omega
theorem qx5{g:Gauge}(hg:OkGauge g){t:Int}{i j:Nat}(hj:j+1=i)(hi:i<g.marks.length)(h1:(g.marks[j]'(by omega)).minute<t)(h2:t≤g.marks[i].minute):
  (1≤g.marks[i].minute-(g.marks[j]'(by omega)).minute∧g.marks[i].minute-(g.marks[j]'(by omega)).minute≤1000000)∧
  (-20000000000≤(g.marks[j]'(by omega)).level*(g.marks[i].minute-(g.marks[j]'(by omega)).minute)∧(g.marks[j]'(by omega)).level*(g.marks[i].minute-(g.marks[j]'(by omega)).minute)≤20000000000)∧
  (-40000000000≤(g.marks[i].level-(g.marks[j]'(by omega)).level)*(t-(g.marks[j]'(by omega)).minute)∧(g.marks[i].level-(g.marks[j]'(by omega)).level)*(t-(g.marks[j]'(by omega)).minute)≤40000000000)∧
  ((0≤(g.marks[j]'(by omega)).minute∧(g.marks[j]'(by omega)).minute≤1000000)∧(-20000≤(g.marks[j]'(by omega)).level∧(g.marks[j]'(by omega)).level≤20000))∧(0≤g.marks[i].minute∧g.marks[i].minute≤1000000)∧(-20000≤g.marks[i].level∧g.marks[i].level≤20000):=by
 have ha:=hg.m j (by omega)
 have hb:=hg.m i hi
 have m1:=qfO (a:=(g.marks[j]'(by omega)).level) (b:=g.marks[i].minute-(g.marks[j]'(by omega)).minute) (A:=20000) (B:=1000000) (by omega) (by omega)
 have m2:=qfO (a:=g.marks[i].level-(g.marks[j]'(by omega)).level) (b:=t-(g.marks[j]'(by omega)).minute) (A:=40000) (B:=1000000) (by omega) (by omega)
 omega
theorem qDn(m:Mark)(t:Int)(hm:(0≤m.minute∧m.minute≤1000000))(ht: -1000000≤t∧t≤2000000):Contract Tryz.prog 316 [.agg (qfa m),.int .i64 t] (.ret (.int .i64 (m.minute-t))):=by
 refine zT mix Tryz.func316 Tryz.ntmps316 Tryz.results316 rfl rfl rfl ?_;simp only[qab,Nat.reduceAdd]
 repeat'(first|(with_reducible rfl)|refine zQ ?_|refine zE ?_|fail)
theorem qFk(g:Gauge)(hg:OkGauge g)(t:Int)(ht:0≤t∧t≤1000000):Contract Tryz.prog 312 [.agg (qax g),.int .i64 t] (.ret (.tup [.int .i64 (qds g.marks t).1,.int .i64 (qds g.marks t).2.1,.bool (qds g.marks t).2.2])):=by
 have hl:=hg.l
 have h1:=qH6 g.marks (by omega) t 316 (fun m hm=>by
  obtain⟨j,hj,rfl⟩:=List.mem_iff_getElem.1 hm
  exact qDn _ t (hg.m j hj).1 (by omega)) hg.a
 obtain⟨f1,f2,f3⟩:=qkq (f:=Mark.minute) g.marks t
 obtain⟨i,hix⟩:∃i,(g.marks.findIdx fun m=>decide (t≤m.minute))=i:=⟨_,rfl⟩
 have hix':ixM g.marks t=i:=hix
 simp only[hix]at h1 f1 f2 f3
 rcases Nat.lt_or_ge i g.marks.length with hi|hi
 rotate_left
 ·obtain rfl:i=g.marks.length:=by omega
  rw[qlO hix']
  rw[List.getElem?_eq_none (Nat.le_refl _),show decide (Option.map (fun z:Mark=>z.minute) none=some t)=false by simp]at h1
  refine zT mix Tryz.func312 Tryz.ntmps312 Tryz.results312 rfl rfl rfl ?_;simp only[qab,Nat.reduceAdd]
  repeat'(first|refine zQ ?_|refine zF h1 ?_|(refine zC ?_ ?_<;>first|intro h|simp)|(refine zG ?_ ?_<;>first|intro h|simp)|refine zE ?_|fail)
  all_goals first|rfl|(exfalso;omega)|trace_state
 rw[List.getElem?_eq_getElem hi]at h1
 by_cases hh:g.marks[i].minute=t
 ·rw[qom hix' hi hh]
  rw[show decide (Option.map (fun z:Mark=>z.minute) (some g.marks[i])=some t)=true by simp[hh]]at h1
  refine zT mix Tryz.func312 Tryz.ntmps312 Tryz.results312 rfl rfl rfl ?_;simp only[qab,Nat.reduceAdd]
  repeat'(first|refine zQ ?_|refine zF h1 ?_|(refine zI ?_;intro hlt)|refine zE ?_|fail)
  all_goals try simp only[Int.toNat_natCast]
  all_goals first|rfl|(exfalso;omega)|trace_state
 rw[show decide (Option.map (fun z:Mark=>z.minute) (some g.marks[i])=some t)=false by simp[hh]]at h1
 by_cases h0:i=0
 ·subst h0
  rw[qlP hix' hi hh]
  refine zT mix Tryz.func312 Tryz.ntmps312 Tryz.results312 rfl rfl rfl ?_;simp only[qab,Nat.reduceAdd]
  repeat'(first|refine zQ ?_|refine zF h1 ?_|refine zE ?_|fail)
  all_goals first|rfl|(exfalso;simp at *;done)|(exfalso;omega)|trace_state
 ·have hj:((i:Int)-1).toNat+1=i:=by omega
  rw[qon hix' hj hi hh]
  have hbd:=qx5 hg (t:=t) (i:=i) hj hi (f2 _ (by omega) (by omega)) (f3 hi)
  refine zT mix Tryz.func312 Tryz.ntmps312 Tryz.results312 rfl rfl rfl ?_;simp only[qab,Nat.reduceAdd]
  repeat'(first|((with_reducible apply(qaS 13 [[6,7,8,9,10],[]]));decide +kernel;rfl)|(with_reducible apply qaR)|(with_reducible apply qav)|(with_reducible apply qas)|(with_reducible apply qby)|(with_reducible apply qaA)|(with_reducible apply qcv)|(with_reducible apply qaw)|((with_reducible apply qa9);rfl;(intro id'))|((with_reducible apply qaT);rfl)|refine zS ?_|refine zA ?_|refine zF h1 ?_|(refine zI ?_;intro hlt)|(refine zC ?_ ?_<;>first|intro h|simp)|(refine zG ?_ ?_<;>first|intro h|simp)|refine zE ?_|fail)
  all_goals first|rfl|(exfalso;omega)|trace_state
theorem qFl(g:Gauge)(hg:OkGauge g)(t:Int)(ht:0≤t∧t≤1000000):Contract Tryz.prog 304 [.agg (qax g),.int .i64 t] (.ret (.tup [.int .i64 (qds g.marks t).1,.int .i64 (qds g.marks t).2.1,.bool (qds g.marks t).2.2])):=by
 have hl:=hg.l
 refine zT mix Tryz.func304 Tryz.ntmps304 Tryz.results304 rfl rfl rfl ?_;simp only[qab,Nat.reduceAdd]
 repeat'(first|refine zQ ?_|fail)
 refine qad g.marks.length (fun i=>⟨[(7,.int .i64 i),(2,.op 0 0 0),(1,.int .i64 t)],[(0,⟨4,true,[qax g]⟩)],32,62⟩) (fun i=>∀j (hj:j<i) (hj':j<g.marks.length),g.marks[j].minute<t) (qaa (nx:=32) (k:=0) (ns:=[]) (ks:=[7,2,1]) [(0,0)] rfl (by simp) (by kernel_rfl)) (by omega) ?_
 intro i hi hC
 rcases Nat.lt_or_ge i g.marks.length with hL|hL
 rotate_left
 ·obtain rfl:i=g.marks.length:=by omega
  rw[qlO (qrv (f:=Mark.minute) hi hC fun h=>absurd h (by omega))]
  repeat'(first|refine zQ ?_|(refine zI ?_;intro hlt)|(refine zC ?_ ?_<;>first|intro h|simp)|refine zE ?_|fail)
  all_goals first
   |exact absurd hL (by omega)
   |rfl
   |trace_state
 rcases Int.lt_trichotomy g.marks[i].minute t with h0|h0|h0
 ·repeat'(first|refine zQ ?_|(refine zI ?_;intro hlt)|(refine zC ?_ ?_<;>first|intro h|simp)|refine zE ?_|fail)
  all_goals try simp only[Int.toNat_natCast]at*
  all_goals first
   |exact absurd hL (by omega)
   |(exfalso;omega)
   |(refine⟨hL,fun j hj hj'=>?_,qaa (nx:=32) (k:=0) (ns:=[]) (ks:=[7,2,1]) [(0,0)] rfl (by simp) (by kernel_rfl)⟩
     rcases Nat.lt_succ_iff_lt_or_eq.1 hj with h'|rfl
     ·exact hC j h' hj'
     ·exact h0)
   |trace_state
 ·rw[qom (qrv (f:=Mark.minute) hi hC fun h=>by omega) hL h0]
  repeat'(first|refine zQ ?_|(refine zI ?_;intro hlt)|(refine zC ?_ ?_<;>first|intro h|simp)|refine zE ?_|fail)
  all_goals try simp only[Int.toNat_natCast]at*
  all_goals first
   |exact absurd hL (by omega)
   |exact absurd h0 (by assumption)
   |rfl
   |trace_state
 ·have hix:=qrv (f:=Mark.minute) (t:=t) hi hC fun h=>by omega
  by_cases hz:i=0
  ·subst hz
   rw[qlP hix hL (by omega)]
   repeat'(first|refine zQ ?_|(refine zI ?_;intro hlt)|(refine zC ?_ ?_<;>first|intro h|simp)|refine zE ?_|fail)
   all_goals try simp only[Int.toNat_natCast]at*
   all_goals first
    |rfl
    |(exfalso;omega)
    |trace_state
  ·have hj:((i:Int)-1).toNat+1=i:=by omega
   rw[qon hix hj hL (by omega)]
   have hbd:=qx5 hg (t:=t) (i:=i) hj hL (hC _ (by omega) (by omega)) (by omega)
   repeat'(first|refine zQ ?_|(refine zI ?_;intro hlt)|(refine zC ?_ ?_<;>first|intro h|simp)|refine zE ?_|fail)
   all_goals first
    |rfl
    |(exfalso;omega)
    |trace_state
theorem qrw{g:Gauge}(hg:OkGauge g){t:Int}:(-60000000000≤(qds g.marks t).1∧(qds g.marks t).1≤60000000000)∧1≤(qds g.marks t).2.1∧(qds g.marks t).2.1≤1000000:=by
 obtain⟨f1,f2,f3⟩:=qkq (f:=Mark.minute) g.marks t
 obtain⟨i,hix⟩:∃i,(g.marks.findIdx fun m=>decide (t≤m.minute))=i:=⟨_,rfl⟩
 have hix':ixM g.marks t=i:=hix
 simp only[hix]at f1 f2 f3
 rcases Nat.lt_or_ge i g.marks.length with hi|hi
 rotate_left
 ·rw[qlO (by omega)];simp
 by_cases hh:g.marks[i].minute=t
 ·rw[qom hix' hi hh]
  have:=hg.m i hi
  simp only
  omega
 by_cases h0:i=0
 ·subst h0
  rw[qlP hix' hi hh];simp
 ·have hj:(i-1)+1=i:=by omega
  rw[qon hix' hj hi hh]
  have hbd:=qx5 hg (t:=t) (i:=i) hj hi (f2 _ (by omega) (by omega)) (f3 hi)
  simp only
  omega
def qeo(g:Gauge)(t:Int):(Int×Int)×Bool:=if(qds g.marks t).2.2=true then(((qds g.marks t).1/(qds g.marks t).2.1-g.err,-(-(qds g.marks t).1/(qds g.marks t).2.1)+g.err),true)else((0,0),false)
def qj6(v:Int×Int):List D:=[.int .i64 v.1,.int .i64 v.2]
theorem qAj{g:Gauge}(hg:OkGauge g){t:Int}:(-60000001000≤(qeo g t).1.1∧(qeo g t).1.1≤60000001000)∧(-60000001000≤(qeo g t).1.2∧(qeo g t).1.2≤60000001000):=by
 unfold qeo
 split
 ·obtain⟨h1,h2⟩:=qrw hg (t:=t)
  have d1:=qhi (a:=(qds g.marks t).1) (b:=(qds g.marks t).2.1) (B:=60000000000) (by omega) (by omega) (by omega)
  have d2:=qhi (a:= -(qds g.marks t).1) (b:=(qds g.marks t).2.1) (B:=60000000000) (by omega) (by omega) (by omega)
  have:=hg.e
  simp only
  omega
 ·simp
theorem qFm(g:Gauge)(hg:OkGauge g)(t:Int)(ht:0≤t∧t≤1000000):Contract Tryz.prog 300 [.agg (qax g),.int .i64 t] (.ret (.tup [.agg (qj6 (qeo g t).1),.bool (qeo g t).2])):=by
 have h1:=qFk g hg t ht
 obtain⟨b1,b2⟩:=qrw hg (t:=t)
 have hge:=hg.e
 unfold qeo
 generalize qds g.marks t=m at*
 obtain⟨n,d,ok⟩:=m
 simp only at b1 b2
 have c1:=qx3 n d (by omega) (by omega)
 have c2:=qFi n d (by omega) (by omega)
 have d1:=qhi (a:=n) (b:=d) (B:=60000000000) (by omega) (by omega) (by omega)
 have d2:=qhi (a:= -n) (b:=d) (B:=60000000000) (by omega) (by omega) (by omega)
 cases ok with
 |true=>
  rw[if_pos rfl]
  refine zT mix Tryz.func300 Tryz.ntmps300 Tryz.results300 rfl rfl rfl ?_;simp only[qab,Nat.reduceAdd]
  repeat'(first|refine zQ ?_|refine zF h1 ?_|refine zF c1 ?_|refine zF c2 ?_|refine zE ?_|fail)
  all_goals first|rfl|trace_state
 |false=>
  refine zT mix Tryz.func300 Tryz.ntmps300 Tryz.results300 rfl rfl rfl ?_;simp only[qab,Nat.reduceAdd]
  repeat'(first|refine zQ ?_|refine zF h1 ?_|refine zE ?_|fail)
  all_goals first|rfl|trace_state
theorem qG6(g:Gauge)(hg:OkGauge g)(t:Int)(ht:0≤t∧t≤1000000):Contract Tryz.prog 279 [.agg (qax g),.int .i64 t] (.ret (.tup [.agg (qj6 (qeo g t).1),.bool (qeo g t).2])):=by
 have h1:=qFl g hg t ht
 obtain⟨b1,b2⟩:=qrw hg (t:=t)
 have hge:=hg.e
 unfold qeo
 generalize qds g.marks t=m at*
 obtain⟨n,d,ok⟩:=m
 simp only at b1 b2
 have c1:=qx4 n d (by omega) (by omega)
 have c2:=qFj n d (by omega) (by omega)
 have d1:=qhi (a:=n) (b:=d) (B:=60000000000) (by omega) (by omega) (by omega)
 have d2:=qhi (a:= -n) (b:=d) (B:=60000000000) (by omega) (by omega) (by omega)
 cases ok with
 |true=>
  rw[if_pos rfl]
  refine zT mix Tryz.func279 Tryz.ntmps279 Tryz.results279 rfl rfl rfl ?_;simp only[qab,Nat.reduceAdd]
  repeat'(first|refine zQ ?_|refine zF h1 ?_|refine zF c1 ?_|refine zF c2 ?_|refine zE ?_|fail)
  all_goals first|rfl|trace_state
 |false=>
  refine zT mix Tryz.func279 Tryz.ntmps279 Tryz.results279 rfl rfl rfl ?_;simp only[qab,Nat.reduceAdd]
  repeat'(first|refine zQ ?_|refine zF h1 ?_|refine zE ?_|fail)
  all_goals first|rfl|trace_state
def qAk(a b:Gauge)(x t:Int):(Int×Int)×Bool:=if(qeo a t).2=true∧(qeo b t).2=true then
 ((((qeo a t).1.1*(b.x-x)+(qeo b t).1.1*(x-a.x))/(b.x-a.x),-(-((qeo a t).1.2*(b.x-x)+(qeo b t).1.2*(x-a.x))/(b.x-a.x))),true)else((0,0),false)
def ixG(l:List Gauge)(x:Int):Nat:=l.findIdx fun g=>decide (x≤g.x)
def qdt(l:List Gauge)(x t:Int):(Int×Int)×Bool:=match l[ixG l x]? with
 |some b=>if b.x=x∨ixG l x=0 then qeo b t else match l[ixG l x-1]? with
  |some a=>qAk a b x t
  |none=>((0,0),false)
 |none=>match l[ixG l x-1]? with
  |some a=>qeo a t
  |none=>((0,0),false)
theorem qrx{x t:Int}:qdt [] x t=((0,0),false):=rfl
theorem qp4{l:List Gauge}{x t:Int}{i:Nat}(h:ixG l x=i)(hi:i<l.length)(h2:l[i].x=x∨i=0):qdt l x t=qeo l[i] t:=by
 unfold qdt;rw[h,List.getElem?_eq_getElem hi];simp only[if_pos h2]
theorem qry{l:List Gauge}{x t:Int}{j:Nat}(h:ixG l x=l.length)(hj:j+1=l.length):qdt l x t=qeo (l[j]'(by omega)) t:=by
 obtain rfl:j=l.length-1:=by omega
 unfold qdt;rw[h,List.getElem?_eq_none (Nat.le_refl _),List.getElem?_eq_getElem (by omega)]
theorem qrz{l:List Gauge}{x t:Int}{i j:Nat}(h:ixG l x=i)(hj:j+1=i)(hi:i<l.length)(h2:¬l[i].x=x):qdt l x t=qAk (l[j]'(by omega)) l[i] x t:=by
 obtain rfl:j=i-1:=by omega
 unfold qdt;rw[h,List.getElem?_eq_getElem hi];simp only[if_neg (show ¬(l[i].x=x∨i=0)by omega)];rw[List.getElem?_eq_getElem (by omega)]
theorem qFn(g:Gauge)(x:Int)(hg:OkGauge g)(hx: -1000000≤x∧x≤1000000):Contract Tryz.prog 299 [.agg (qax g),.int .i64 x] (.ret (.int .i64 (g.x-x))):=by
 have:=hg.x
 refine zT mix Tryz.func299 Tryz.ntmps299 Tryz.results299 rfl rfl rfl ?_;simp only[qab,Nat.reduceAdd]
 repeat'(first|(with_reducible rfl)|refine zQ ?_|refine zE ?_|fail)
theorem qrA{a b:Gauge}(ha:OkGauge a)(hb:OkGauge b){x t:Int}(h1:a.x<x)(h2:x≤b.x):
  (1≤b.x-a.x∧b.x-a.x≤2000000)∧(0≤b.x-x∧b.x-x≤2000000)∧(0≤x-a.x∧x-a.x≤2000000)∧
  (-120000002000000000≤(qeo a t).1.1*(b.x-x)∧(qeo a t).1.1*(b.x-x)≤120000002000000000)∧(-120000002000000000≤(qeo b t).1.1*(x-a.x)∧(qeo b t).1.1*(x-a.x)≤120000002000000000)∧
  (-120000002000000000≤(qeo a t).1.2*(b.x-x)∧(qeo a t).1.2*(b.x-x)≤120000002000000000)∧(-120000002000000000≤(qeo b t).1.2*(x-a.x)∧(qeo b t).1.2*(x-a.x)≤120000002000000000):=by
 have xa:=ha.x
 have xb:=hb.x
 obtain⟨p1,p2⟩:=qAj ha (t:=t)
 obtain⟨q1,q2⟩:=qAj hb (t:=t)
 have m1:=qfO (a:=(qeo a t).1.1) (b:=b.x-x) (A:=60000001000) (B:=2000000) p1 (by omega)
 have m2:=qfO (a:=(qeo b t).1.1) (b:=x-a.x) (A:=60000001000) (B:=2000000) q1 (by omega)
 have m3:=qfO (a:=(qeo a t).1.2) (b:=b.x-x) (A:=60000001000) (B:=2000000) p2 (by omega)
 have m4:=qfO (a:=(qeo b t).1.2) (b:=x-a.x) (A:=60000001000) (B:=2000000) q2 (by omega)
 omega
theorem qDo{a b:Gauge}(ha:OkGauge a)(hb:OkGauge b){x t:Int}(h1:a.x<x)(h2:x≤b.x):(-240000004000000000≤(qAk a b x t).1.1∧(qAk a b x t).1.1≤240000004000000000)∧(-240000004000000000≤(qAk a b x t).1.2∧(qAk a b x t).1.2≤240000004000000000):=by
 obtain⟨b0,b1,b2,b3,b4,b5,b6⟩:=qrA ha hb (t:=t) h1 h2
 unfold qAk
 split
 ·have d1:=qhi (a:=(qeo a t).1.1*(b.x-x)+(qeo b t).1.1*(x-a.x)) (b:=b.x-a.x) (B:=240000004000000000) (by omega) (by omega) (by omega)
  have d2:=qhi (a:= -((qeo a t).1.2*(b.x-x)+(qeo b t).1.2*(x-a.x))) (b:=b.x-a.x) (B:=240000004000000000) (by omega) (by omega) (by omega)
  simp only
  omega
 ·simp
theorem qBM{l:List Gauge}(hg:OkGauges l){x t:Int}:(-240000004000000000≤(qdt l x t).1.1∧(qdt l x t).1.1≤240000004000000000)∧(-240000004000000000≤(qdt l x t).1.2∧(qdt l x t).1.2≤240000004000000000):=by
 obtain⟨f1,f2,f3⟩:=qkq (f:=Gauge.x) l x
 obtain⟨i,hix⟩:∃i,(l.findIdx fun m=>decide (x≤m.x))=i:=⟨_,rfl⟩
 have hix':ixG l x=i:=hix
 simp only[hix]at f1 f2 f3
 rcases Nat.lt_or_ge i l.length with hi|hi
 ·by_cases h0:l[i].x=x∨i=0
  ·rw[qp4 hix' hi h0]
   have:=qAj (hg.gs i hi) (t:=t)
   omega
  ·have hj:(i-1)+1=i:=by omega
   rw[qrz hix' hj hi (by omega)]
   exact qDo (hg.gs _ _) (hg.gs i hi) (f2 _ (by omega) (by omega)) (f3 hi)
 ·by_cases hz:l.length=0
  ·obtain rfl:l=[]:=List.eq_nil_of_length_eq_zero hz
   rw[qrx];simp
  ·have hj:(l.length-1)+1=l.length:=by omega
   rw[qry (by omega) hj]
   have:=qAj (hg.gs (l.length-1) (by omega)) (t:=t)
   omega
end Go.Pv.Soil

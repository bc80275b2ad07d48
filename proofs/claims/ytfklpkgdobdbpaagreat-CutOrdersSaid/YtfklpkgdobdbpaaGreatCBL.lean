import Derived.Test.YtfklpkgdobdbpaaGreatCBK
/- Part of the proofs over YtfklpkgdobdbpaaGreat: N23. -/
set_option linter.unusedVariables false
set_option linter.unusedSimpArgs false
set_option linter.unnecessarySimpa false
open Go Go.Proofs Go.Pv
set_option maxHeartbeats 8000000
set_option maxRecDepth 100000
set_option linter.unusedSimpArgs false
set_option linter.unusedVariables false
namespace Go.Pv.Soil
theorem qDp(l:List Gauge)(hg:OkGauges l)(x t:Int)(hx: -1000000≤x∧x≤1000000)(ht:0≤t∧t≤1000000):Contract Tryz.prog 277 [.sl (l.map qax),.int .i64 x,.int .i64 t] (.ret (.tup [.agg (qj6 (qdt l x t).1),.bool (qdt l x t).2])):=by
 have hl:=hg.len
 have h1:=qH7 l (by omega) x 299 (fun m hm=>by
  obtain⟨j,hj,rfl⟩:=List.mem_iff_getElem.1 hm
  exact qFn _ x (hg.gs j hj) hx) hg.asc
 obtain⟨f1,f2,f3⟩:=qkq (f:=Gauge.x) l x
 obtain⟨i,hix⟩:∃i,(l.findIdx fun m=>decide (x≤m.x))=i:=⟨_,rfl⟩
 have hix':ixG l x=i:=hix
 simp only[hix]at h1 f1 f2 f3
 by_cases hz:l.length=0
 ·obtain rfl:l=[]:=List.eq_nil_of_length_eq_zero hz
  rw[qrx]
  refine zT mix Tryz.func277 Tryz.ntmps277 Tryz.results277 rfl rfl rfl ?_;simp only[qab,Nat.reduceAdd]
  repeat'(first|refine zQ ?_|refine zE ?_|fail)
  all_goals first|rfl|(exfalso;simp at *;done)|trace_state
 rcases Nat.lt_or_ge i l.length with hi|hi
 rotate_left
 ·obtain rfl:i=l.length:=by omega
  have hj:((l.length:Int)-1).toNat+1=l.length:=by omega
  rw[qry hix' hj]
  rw[List.getElem?_eq_none (Nat.le_refl _),show decide (Option.map (fun z:Gauge=>z.x) none=some x)=false by simp]at h1
  have h2:=qFm (l[((l.length:Int)-1).toNat]'(by omega)) (hg.gs _ (by omega)) t ht
  refine zT mix Tryz.func277 Tryz.ntmps277 Tryz.results277 rfl rfl rfl ?_;simp only[qab,Nat.reduceAdd]
  repeat'(first|refine zQ ?_|refine zF h1 ?_|refine zF h2 ?_|(refine zI ?_;intro hlt)|(refine zC ?_ ?_<;>first|intro h|simp)|refine zE ?_|fail)
  all_goals first|rfl|(exfalso;omega)|trace_state
 rw[List.getElem?_eq_getElem hi]at h1
 by_cases hh:l[i].x=x
 ·rw[qp4 hix' hi (.inl hh)]
  rw[show decide (Option.map (fun z:Gauge=>z.x) (some l[i])=some x)=true by simp[hh]]at h1
  have h2:=qFm l[i] (hg.gs i hi) t ht
  refine zT mix Tryz.func277 Tryz.ntmps277 Tryz.results277 rfl rfl rfl ?_;simp only[qab,Nat.reduceAdd]
  repeat'(first|refine zQ ?_|refine zF h1 ?_|refine zF h2 ?_|(refine zI ?_;intro hlt)|(refine zC ?_ ?_<;>first|intro h|simp)|refine zE ?_|fail)
  all_goals try simp only[Int.toNat_natCast]
  all_goals first|rfl|(exfalso;omega)|trace_state
 rw[show decide (Option.map (fun z:Gauge=>z.x) (some l[i])=some x)=false by simp[hh]]at h1
 by_cases h0:i=0
 ·subst h0
  rw[qp4 hix' hi (.inr rfl)]
  have h2:=qFm l[0] (hg.gs 0 hi) t ht
  refine zT mix Tryz.func277 Tryz.ntmps277 Tryz.results277 rfl rfl rfl ?_;simp only[qab,Nat.reduceAdd]
  repeat'(first|refine zQ ?_|refine zF h1 ?_|refine zF h2 ?_|(refine zI ?_;intro hlt)|(refine zC ?_ ?_<;>first|intro h|simp)|refine zE ?_|fail)
  all_goals first|rfl|(exfalso;simp at *;done)|(exfalso;omega)|trace_state
 have hj:((i:Int)-1).toNat+1=i:=by omega
 rw[qrz hix' hj hi hh]
 have ga:=hg.gs ((i:Int)-1).toNat (by omega)
 have gb:=hg.gs i hi
 have xa:=ga.x
 have xb:=gb.x
 have h2:=qFm _ ga t ht
 have h3:=qFm l[i] gb t ht
 have hbd:=qrA ga gb (t:=t) (f2 _ (by omega) (by omega)) (f3 hi)
 have c1:=qx3 ((qeo (l[((i:Int)-1).toNat]'(by omega)) t).1.1*(l[i].x-x)+(qeo l[i] t).1.1*(x-(l[((i:Int)-1).toNat]'(by omega)).x)) (l[i].x-(l[((i:Int)-1).toNat]'(by omega)).x) (by omega) (by omega)
 have c2:=qFi ((qeo (l[((i:Int)-1).toNat]'(by omega)) t).1.2*(l[i].x-x)+(qeo l[i] t).1.2*(x-(l[((i:Int)-1).toNat]'(by omega)).x)) (l[i].x-(l[((i:Int)-1).toNat]'(by omega)).x) (by omega) (by omega)
 unfold qAk
 generalize qeo (l[((i:Int)-1).toNat]'(by omega)) t=va at*
 generalize qeo l[i] t=vb at*
 obtain⟨⟨va1,va2⟩,va3⟩:=va
 obtain⟨⟨vb1,vb2⟩,vb3⟩:=vb
 simp only at hbd c1 c2
 simp only[qj6]at h2 h3
 cases va3<;>cases vb3
 all_goals
  refine zT mix Tryz.func277 Tryz.ntmps277 Tryz.results277 rfl rfl rfl ?_;simp only[qab,Nat.reduceAdd]
  repeat'(first|((with_reducible apply(qaS 11 [[5,6,7,8],[]]));decide +kernel;rfl)|(with_reducible apply qaR)|(with_reducible apply qav)|(with_reducible apply qas)|(with_reducible apply qby)|(with_reducible apply qaA)|(with_reducible apply qcv)|(with_reducible apply qaw)|((with_reducible apply qa9);rfl;(intro id'))|((with_reducible apply qaT);rfl)|refine zS ?_|refine zA ?_|refine zF h1 ?_|refine zF h2 ?_|refine zF h3 ?_|refine zF c1 ?_|refine zF c2 ?_|(refine zI ?_;intro hlt)|(refine zC ?_ ?_<;>first|intro h|simp)|refine zE ?_|fail)
 all_goals first|rfl|(exfalso;omega)|trace_state
theorem qDq(l:List Gauge)(hg:OkGauges l)(x t:Int)(hx: -1000000≤x∧x≤1000000)(ht:0≤t∧t≤1000000):Contract Tryz.prog 248 [.sl (l.map qax),.int .i64 x,.int .i64 t] (.ret (.tup [.agg (qj6 (qdt l x t).1),.bool (qdt l x t).2])):=by
 have hl:=hg.len
 by_cases hz:l.length=0
 ·obtain rfl:l=[]:=List.eq_nil_of_length_eq_zero hz
  rw[qrx]
  refine zT mix Tryz.func248 Tryz.ntmps248 Tryz.results248 rfl rfl rfl ?_;simp only[qab,Nat.reduceAdd]
  repeat'(first|refine zQ ?_|refine zE ?_|fail)
  all_goals first|rfl|(exfalso;simp at *;done)|trace_state
 by_cases h00:x≤l[0].x
 ·rw[qp4 (i:=0) (qrv (f:=Gauge.x) (by omega) (fun j hj=>absurd hj (by omega)) fun h=>h00) (by omega) (.inr rfl)]
  have h2:=qG6 l[0] (hg.gs 0 (by omega)) t ht
  refine zT mix Tryz.func248 Tryz.ntmps248 Tryz.results248 rfl rfl rfl ?_;simp only[qab,Nat.reduceAdd]
  repeat'(first|refine zQ ?_|refine zF h2 ?_|(refine zI ?_;intro hlt)|(refine zC ?_ ?_<;>first|intro h|simp)|refine zE ?_|fail)
  all_goals first|rfl|(exfalso;omega)|exact absurd h00 (by assumption)|trace_state
 refine zT mix Tryz.func248 Tryz.ntmps248 Tryz.results248 rfl rfl rfl ?_;simp only[qab,Nat.reduceAdd]
 repeat'(first|refine zQ ?_|(refine zI ?_;intro hlt)|(refine zC ?_ ?_<;>first|intro h|simp)|refine zE ?_|fail)
 all_goals first
  |(exfalso;omega)
  |exact absurd (by assumption) h00
  |skip
 refine qad (l.length-1) (fun i=>⟨[(8,.int .i64 (1+(i:Int))),(6,.op 1 0 0),(0,.sl (l.map qax)),(1,.int .i64 x),(2,.int .i64 t)],[(1,⟨2,true,[[.int .i64 0,.int .i64 0]]⟩)],64,130⟩) (fun i=>∀j (hj:j<i+1) (hj':j<l.length),l[j].x<x) ?_ ?_ ?_
 ·exact qaa (nx:=64) (k:=0) (ns:=[]) (ks:=[8,6,0,1,2]) [(0,1)] rfl (by simp) (by kernel_rfl)
 ·intro j hj hj'
  obtain rfl:j=0:=by omega
  omega
 intro k hk hC
 have e1:(1+(k:Int)).toNat=k+1:=by omega
 rcases Nat.lt_or_ge (k+1) l.length with hi|hi
 rotate_left
 ·have hj:((l.length:Int)-1).toNat+1=l.length:=by omega
  rw[qry (qrv (f:=Gauge.x) (Nat.le_refl _) (fun j hj hj'=>hC j (by omega) hj') fun h=>absurd h (by omega)) hj]
  have h2:=qG6 (l[((l.length:Int)-1).toNat]'(by omega)) (hg.gs _ (by omega)) t ht
  repeat'(first|((with_reducible apply(qaS 11 [[5,6,7,8],[]]));decide +kernel;rfl)|(with_reducible apply qaR)|(with_reducible apply qav)|(with_reducible apply qas)|(with_reducible apply qby)|(with_reducible apply qaA)|(with_reducible apply qcv)|(with_reducible apply qaw)|((with_reducible apply qa9);rfl;(intro id'))|((with_reducible apply qaT);rfl)|refine zS ?_|refine zA ?_|refine zF h2 ?_|(refine zI ?_;intro hlt)|(refine zC ?_ ?_<;>first|intro h|simp)|refine zE ?_|fail)
  all_goals first
   |rfl
   |(exfalso;omega)
   |trace_state
 have hil:(1+(k:Int)).toNat<l.length:=by omega
 have hjl:(1+(k:Int)-1).toNat<l.length:=by omega
 have hj:(1+(k:Int)-1).toNat+1=(1+(k:Int)).toNat:=by omega
 have hC':∀j (hj:j<(1+(k:Int)).toNat) (hj':j<l.length),l[j].x<x:=fun j h h'=>hC j (by omega) h'
 have gb:=hg.gs _ hil
 have ga:=hg.gs _ hjl
 have xb:=gb.x
 have xa:=ga.x
 have h2:=qG6 _ ga t ht
 have h3:=qG6 _ gb t ht
 by_cases hh:l[(1+(k:Int)).toNat].x=x
 ·rw[qp4 (qrv (f:=Gauge.x) (by omega) hC' fun h=>by omega) hil (.inl hh)]
  repeat'(first|((with_reducible apply(qaS 11 [[5,6,7,8],[]]));decide +kernel;rfl)|(with_reducible apply qaR)|(with_reducible apply qav)|(with_reducible apply qas)|(with_reducible apply qby)|(with_reducible apply qaA)|(with_reducible apply qcv)|(with_reducible apply qaw)|((with_reducible apply qa9);rfl;(intro id'))|((with_reducible apply qaT);rfl)|refine zS ?_|refine zA ?_|refine zF h3 ?_|(refine zI ?_;intro hlt)|(refine zC ?_ ?_<;>first|intro h|simp)|refine zE ?_|fail)
  all_goals first
   |rfl
   |(exfalso;omega)
   |exact absurd hh.symm (by assumption)
   |trace_state
 by_cases hgt:l[(1+(k:Int)).toNat].x<x
 ·repeat'(first|((with_reducible apply(qaS 11 [[5,6,7,8],[]]));decide +kernel;rfl)|(with_reducible apply qaR)|(with_reducible apply qav)|(with_reducible apply qas)|(with_reducible apply qby)|(with_reducible apply qaA)|(with_reducible apply qcv)|(with_reducible apply qaw)|((with_reducible apply qa9);rfl;(intro id'))|((with_reducible apply qaT);rfl)|refine zS ?_|refine zA ?_|(refine zI ?_;intro hlt)|(refine zC ?_ ?_<;>first|intro h|simp)|fail)
  all_goals first
   |(exfalso;omega)
   |(refine⟨by omega,fun j hj1 hj2=>?_,?_⟩
     ·rcases Nat.lt_succ_iff_lt_or_eq.1 hj1 with h'|rfl
      ·exact hC j h' hj2
      ·simpa only[e1]using hgt
     ·rw[show 1+(k:Int)+1=1+((k+1:Nat):Int)by omega]
      exact qaa (nx:=64) (k:=0) (ns:=[]) (ks:=[8,6,0,1,2]) [(1,1)] rfl (by simp) (by kernel_rfl))
   |trace_state
 rw[qrz (qrv (f:=Gauge.x) (by omega) hC' fun h=>by omega) hj hil hh]
 have hbd:=qrA ga gb (t:=t) (hC' _ (by omega) hjl) (by omega)
 have c1:=qx4 ((qeo l[(1+(k:Int)-1).toNat] t).1.1*(l[(1+(k:Int)).toNat].x-x)+(qeo l[(1+(k:Int)).toNat] t).1.1*(x-l[(1+(k:Int)-1).toNat].x)) (l[(1+(k:Int)).toNat].x-l[(1+(k:Int)-1).toNat].x) (by omega) (by omega)
 have c2:=qFj ((qeo l[(1+(k:Int)-1).toNat] t).1.2*(l[(1+(k:Int)).toNat].x-x)+(qeo l[(1+(k:Int)).toNat] t).1.2*(x-l[(1+(k:Int)-1).toNat].x)) (l[(1+(k:Int)).toNat].x-l[(1+(k:Int)-1).toNat].x) (by omega) (by omega)
 unfold qAk
 generalize qeo l[(1+(k:Int)-1).toNat] t=va at*
 generalize qeo l[(1+(k:Int)).toNat] t=vb at*
 obtain⟨⟨va1,va2⟩,va3⟩:=va
 obtain⟨⟨vb1,vb2⟩,vb3⟩:=vb
 simp only at hbd c1 c2
 simp only[qj6]at h2 h3
 cases va3<;>cases vb3
 all_goals repeat'(first|((with_reducible apply(qaS 11 [[5,6,7,8],[]]));decide +kernel;rfl)|(with_reducible apply qaR)|(with_reducible apply qav)|(with_reducible apply qas)|(with_reducible apply qby)|(with_reducible apply qaA)|(with_reducible apply qcv)|(with_reducible apply qaw)|((with_reducible apply qa9);rfl;(intro id'))|((with_reducible apply qaT);rfl)|refine zS ?_|refine zA ?_|refine zF h2 ?_|refine zF h3 ?_|refine zF c1 ?_|refine zF c2 ?_|(refine zI ?_;intro hlt)|(refine zC ?_ ?_<;>first|intro h|simp)|refine zE ?_|fail)
 all_goals first|rfl|(exfalso;omega)|exact absurd hh.symm (by assumption)|trace_state
end Go.Pv.Soil

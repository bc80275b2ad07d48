import Derived.Test.YtfklpkgdobdbpaaGreatCBJ
import Derived.Test.YtfklpkgdobdbpaaGreatCBM
/- Part of the proofs over YtfklpkgdobdbpaaGreat: PHZ, V1, N17, N18, N30, N56, S38. -/
set_option linter.unusedVariables false
set_option linter.unusedSimpArgs false
set_option linter.unnecessarySimpa false
open Go Go.Proofs Go.Pv
set_option maxHeartbeats 8000000
set_option maxRecDepth 100000
set_option linter.unusedSimpArgs false
set_option linter.unusedVariables false
namespace Go.Pv.Geo
theorem c_rSpan(a b:Pt)(ha:ptOK a=true)(hb:ptOK b=true):Contract Tryz.prog 141 [.agg (encPt a),.agg (encPt b)] (.ret (.int .i64 (spanE (sqE a b)))):=by
 have hbd:=sqE_bd ha hb
 have hd:=qw2 a b ha hb
 generalize sqE a b=s at*
 refine zT mix Tryz.func141 Tryz.ntmps141 Tryz.results141 rfl rfl rfl ?_;simp only[qab,Nat.reduceAdd]
 repeat'(first|refine zQ ?_|fail)
 refine qib (fun x:Int×Int=>(x.2-x.1).toNat) (fun x=>⟨[(5,.int .i64 x.1),(6,.int .i64 x.2),(2,.op 0 0 0),(3,.op 1 0 0)],[(0,⟨2,true,[encPt a]⟩),(1,⟨2,true,[encPt b]⟩)],32,26⟩) (fun x=>(0≤x.1∧x.1≤x.2∧x.2≤4000000)∧s≤x.2*x.2∧∀m,0≤m→m<x.1→m*m<s) (0,4000000)
  (qaa (nx:=32) (k:=0) (ns:=[]) (ks:=[5,6,2,3]) [(0,0),(32,1)] rfl (by simp) (by kernel_rfl)) ⟨⟨by omega,by omega,by omega⟩,by omega,fun m h1 h2=>by omega⟩ ?_
 rintro⟨lo,hi⟩ ⟨⟨h1,h2,h3⟩,h4,h5⟩
 simp only at h1 h2 h3 h4 h5
 have hmid:0≤(lo+hi)/2∧(lo+hi)/2≤4000000:=by omega
 have hmm:=qhA hmid.1 hmid.2
 have hmm0:=Int.mul_nonneg hmid.1 hmid.1
 repeat'(first|refine zQ ?_|refine zF hd ?_|(refine zC ?_ ?_<;>first|intro h|simp)|refine zE ?_|fail)
 all_goals first
  |exact⟨(lo,(lo+hi)/2),by simp only;omega,⟨⟨by simp only;omega,by simp only;omega,by simp only;omega⟩,by simp only;omega,h5⟩,qaa (nx:=32) (k:=0) (ns:=[]) (ks:=[5,6,2,3]) [(0,0),(1,1)] rfl (by simp) (by kernel_rfl)⟩
  |exact⟨((lo+hi)/2+1,hi),by simp only;omega,⟨⟨by simp only;omega,by simp only;omega,by simp only;omega⟩,h4,fun m hm1 hm2=>by have:=qhA hm1 (show m≤(lo+hi)/2 by simp only at hm2;omega);omega⟩,qaa (nx:=32) (k:=0) (ns:=[]) (ks:=[5,6,2,3]) [(0,0),(1,1)] rfl (by simp) (by kernel_rfl)⟩
  |(have he:lo=hi:=by omega
    subst he
    exact(qkg ⟨h1,h4,h5⟩).symm)
  |(exfalso;omega)
  |trace_state
theorem c_rOffset(a b p:Pt)(ha:ptOK a=true)(hb:ptOK b=true)(hp:ptOK p=true)(hne:eqP a b=false):Contract Tryz.prog 142 [.agg (encPt a),.agg (encPt b),.agg (encPt p)] (.ret (.int .i64 (offE a b p))):=by
 have hx:=qn8 a b p ha hb hp
 have hs:=c_rSpan a b ha hb
 have h1:=crossE_bd ha hb hp
 have hab:=qHT (crossE a b p) (by omega) (by omega)
 have h2:=qkh (qsA hne) (sqE_bd ha hb).2
 have h3:=(span_is (sqE_bd ha hb).2).2
 have h4:=absE_nn (crossE a b p)
 have h5:=absE_le h1
 unfold offE
 refine zT mix Tryz.func142 Tryz.ntmps142 Tryz.results142 rfl rfl rfl ?_;simp only[qab,Nat.reduceAdd]
 repeat'(first|(with_reducible rfl)|refine zQ ?_|refine zF hx ?_|refine zF hs ?_|refine zF hab ?_|refine zE ?_|fail)
 all_goals trace_state
theorem qDh(n m:Int)(hm:0<m)(hm':m≤1000000000000)(hn: -1000000000000000≤n∧n≤1000000000000000):Contract Tryz.prog 194 [.int .i64 n,.int .i64 m] (.ret (.int .i64 (n/m))):=by
 have hd:=qHU n m hm hm' hn
 have e1:=Int.emod_nonneg n (show m≠0 by omega)
 have e2:=Int.emod_lt_of_pos n hm
 have e3:n-n%m=m*(n/m):=by have:=Int.mul_ediv_add_emod n m;omega
 refine zT mix Tryz.func194 Tryz.ntmps194 Tryz.results194 rfl rfl rfl ?_;simp only[qab,Nat.reduceAdd]
 repeat'(first|refine zQ ?_|refine zF hd ?_|refine zE ?_|fail)
 rw[e3,Int.mul_tdiv_cancel_left _ (by omega)]
theorem c_rAlong(a b p:Pt)(ha:ptOK a=true)(hb:ptOK b=true)(hp:ptOK p=true)(hne:eqP a b=false):Contract Tryz.prog 140 [.agg (encPt a),.agg (encPt b),.agg (encPt p)] (.ret (.int .i64 (alongE a b p))):=by
 have hx:=qBj a b p ha hb hp
 have hs:=c_rSpan a b ha hb
 have h1:=qw1 ha hb hp
 have h2:=qkh (qsA hne) (sqE_bd ha hb).2
 have h3:=(span_is (sqE_bd ha hb).2).2
 have hf:=qDh (qqD a b p) (spanE (sqE a b)) h2 (by omega) (by omega)
 refine zT mix Tryz.func140 Tryz.ntmps140 Tryz.results140 rfl rfl rfl ?_;simp only[qab,Nat.reduceAdd]
 repeat'(first|refine zQ ?_|refine zF hx ?_|refine zF hs ?_|refine zF hf ?_|refine zE ?_|fail)
 all_goals rfl
end Go.Pv.Geo
namespace Go.Pv.Soil
open Classical in
theorem qDi{q:Quay}(hq:qe8 q=0)(m:Grid)(k:Nat)(hp:Geo.ptOK (qkm m k)=true):qhh q m k=if qnj q (qkm m k)then(if qhg q (qkm m k)< -20000 then 30000 else qhg q (qkm m k))else 30000:=by
 unfold qhh qgy
 by_cases hf:qnj q (qkm m k)
 ·rw[if_pos hf,if_pos hf]
  by_cases hl:qhg q (qkm m k)< -20000
  ·rw[if_pos hl];simp only[decide_eq_false (show ¬ -20000≤qhg q (qkm m k)by omega)];rfl
  ·rw[if_neg hl];simp only[decide_eq_true (show -20000≤qhg q (qkm m k)by omega)];rfl
 ·rw[if_neg hf,if_neg hf];rfl
theorem qAg(q:Quay)(hq:qe8 q=0)(m:Grid)(k:Nat)(hp:Geo.ptOK (qkm m k)=true):Contract Tryz.prog 63 [.agg (qct q),.agg (gP (qkm m k))] (.ret (.int .i64 (qhh q m k))):=by
 have hv:=qDi hq m k hp
 obtain⟨⟨ka,kb⟩,⟨kt,kr⟩,hne⟩:=qw8 hq
 generalize qkm m k=p at*
 have x1:Contract Tryz.prog 140 [.agg (gP q.a),.agg (gP q.b),.agg (gP p)] (.ret (.int .i64 (Geo.alongE q.a q.b p))):=Geo.c_rAlong q.a q.b p ka kb hp hne
 have x2:Contract Tryz.prog 142 [.agg (gP q.a),.agg (gP q.b),.agg (gP p)] (.ret (.int .i64 (Geo.offE q.a q.b p))):=Geo.c_rOffset q.a q.b p ka kb hp hne
 have x3:Contract Tryz.prog 139 [.agg (gP q.a),.agg (gP q.b),.agg (gP p)] (.ret (.int .i64 (Geo.signE (Geo.crossE q.a q.b p)))):=Geo.c_rorient q.a q.b p ka kb hp
 have x4:Contract Tryz.prog 141 [.agg (gP q.a),.agg (gP q.b)] (.ret (.int .i64 (Geo.spanE (Geo.sqE q.a q.b)))):=Geo.c_rSpan q.a q.b ka kb
 have ho:=qBC ka kb hp
 have ht: -20000≤q.toe∧q.toe≤20000:=by simpa[qhQ]using kt
 have hd:0≤10*Geo.offE q.a q.b p/q.run:=Int.ediv_nonneg (by omega) (by omega)
 have hd2:10*Geo.offE q.a q.b p/q.run≤80000000000000:=Int.le_trans (Int.ediv_le_self _ (by omega)) (by omega)
 have hsg:Geo.signE (Geo.crossE q.a q.b p)<0↔¬0≤Geo.crossE q.a q.b p:=by unfold Geo.signE;(repeat' split)<;>omega
 unfold qnj qhg at hv
 unfold gP at x1 x2 x3 x4 ⊢
 generalize Geo.alongE q.a q.b p=A at*
 generalize Geo.offE q.a q.b p=O at*
 generalize Geo.signE (Geo.crossE q.a q.b p)=G at*
 generalize Geo.crossE q.a q.b p=C at*
 generalize Geo.spanE (Geo.sqE q.a q.b)=T at*
 rw[hv]
 clear hv
 refine zT mix Tryz.func63 Tryz.ntmps63 Tryz.results63 rfl rfl rfl ?_;simp only[qab,Nat.reduceAdd]
 repeat'(first|((with_reducible apply qae);rfl;(exact Geo.c_within _ _ _);rfl)|refine zQ ?_|refine zF x1 ?_|refine zF x2 ?_|refine zF x3 ?_|refine zF x4 ?_|(refine zC ?_ ?_<;>first|intro h|simp)|(refine zG ?_ ?_<;>first|intro h|simp)|refine zE ?_|fail)
 all_goals first
  |(exfalso;omega)
  |(rw[if_pos (by omega),if_pos (by omega)];done)
  |(rw[if_pos (by omega),if_neg (by omega)];done)
  |(rw[if_neg (by omega)];done)
  |trace_state
def qBH(e:Int×Int×Bool):Int:=if e.2.2=true then 0 else 6
theorem qko(s:Site)(ok:OkSite s)(hz:Sized s)(b:Grid)(hb:OkBed s b)(h100:b.levels.length≤100)(c:Cut)(hc:OkCut s c):Contract Tryz.prog 48 [.agg (encSite s),.agg (qag b),.agg (encCut c)]
  (.ret (.tup [.int .i64 (qiS (dredOf s c.dredger) (qbk s b c)).1,.int .i64 (qiS (dredOf s c.dredger) (qbk s b c)).2.1,.int .i64 (qBH (qiS (dredOf s c.dredger) (qbk s b c)))])):=by
 have h1:=qch s (by have:=ok.dreds;omega) c.dredger
 have h2:=qC9 s ok.gr hz ok.bed b hb c hc
 have hd:=ok.dredOf hc
 have hv:=qlL ok.gr ok.bed hb h100 hc
 have h8:(qbk s b c).length≤8:=by rw[qkn];exact qfs (okG ok.gr)
 have hh:=hd.n.2.2.2.2.2
 have hl:=hd.l
 have hro:=fun n=>qtb s (by have:=ok.dreds;omega) c hc.dr (by omega) n
 obtain⟨hk,ed⟩:=qcp hc.dr
 obtain⟨k,ek⟩:=Int.eq_ofNat_of_zero_le hc.dr
 have hkk:(qdb s c.dredger).toNat=k:=by omega
 rw[ek]at h1
 simp only[hkk]at hk ed
 generalize dredOf s c.dredger=d at*
 subst ed
 generalize qbk s b c=l at*
 refine zT mix Tryz.func48 Tryz.ntmps48 Tryz.results48 rfl rfl rfl ?_;simp only[qab,Nat.reduceAdd]
 repeat'(first|refine zQ ?_|refine zF h2 ?_|fail)
 refine qad l.length (fun i=>⟨[(12,.int .i64 i),(11,.sl (l.map qbJ)),(3,.op 0 0 0),(5,.op 2 0 0),(9,.int .i64 (qhR s.dreds[k] (l.take i))),(10,.int .i64 (qvE s.dreds[k] (l.take i)))],[(0,⟨12,true,[encSite s]⟩),(2,⟨8,true,[encCut c]⟩)],96,82⟩) (fun i=>∀j (hj:j<i) (hj':j<l.length),l[j].vol≠0→0≤qg5 s.dreds[k] l[j].soil) (qaa (nx:=96) (k:=0) (ns:=[]) (ks:=[12,11,3,5,9,10]) [(0,0),(64,2)] rfl (by simp) (by kernel_rfl)) (by omega) ?_
 intro i hi hC
 obtain⟨hm1,hm2⟩:=qnk hd hv i hi hC
 by_cases hL:i<l.length
 rotate_left
 ·obtain rfl:i=l.length:=by omega
  rw[qxZ fun j hj=>hC j hj hj]
  rw[List.take_length]at*
  have hp:0≤qhR s.dreds[k] l*s.dreds[k].hour∧qhR s.dreds[k] l*s.dreds[k].hour≤2304000000000*1000000:=qbN (a:=qhR s.dreds[k] l) (b:=s.dreds[k].hour) (m:=2304000000000) (n:=1000000) (by omega) (by omega)
  have hu:=qxQ (qhR s.dreds[k] l*s.dreds[k].hour) 60 (by omega) (by omega)
  have hub:=qlG (a:=qhR s.dreds[k] l*s.dreds[k].hour) (b:=60) (by omega) (by omega)
  repeat'(first|((with_reducible apply(qaS 12 [[10],[]]));decide +kernel;rfl)|refine zS ?_|refine zA ?_|refine zF h1 ?_|refine zF hu ?_|(refine zI ?_;intro hlt)|(refine zC ?_ ?_<;>first|intro h|simp)|refine zE ?_|fail)
  all_goals first
   |exact absurd (show l.length<l.length by omega) hL
   |rfl
   |trace_state
 have hvi:=hv i hL
 by_cases h0:l[i].vol=0
 ·have e1:=qgz (d:=s.dreds[k]) hL
  have e2:=qgA (d:=s.dreds[k]) hL
  rw[if_pos h0,Int.add_zero]at e1 e2
  repeat'(first|((with_reducible apply(qaS 12 [[10],[]]));decide +kernel;rfl)|refine zS ?_|refine zA ?_|(refine zI ?_;intro hlt)|(refine zC ?_ ?_<;>first|intro h|simp)|fail)
  all_goals try simp only[Int.toNat_natCast]at*
  all_goals first
   |exact absurd hL (by omega)
   |exact absurd (by assumption) h0
   |exact absurd h0 (by assumption)
   |(refine⟨hL,fun j hj hj' hne=>?_,?_⟩
     ·rcases Nat.lt_succ_iff_lt_or_eq.1 hj with h'|rfl
      ·exact hC j h' hj' hne
      ·exact absurd h0 hne
     ·rw[e1,e2]
      exact qaa (nx:=96) (k:=0) (ns:=[]) (ks:=[12,11,3,5,9,10]) [(0,0),(2,2)] rfl (by simp) (by kernel_rfl))
   |trace_state
 have h3:=hro l[i].soil
 by_cases ho:0≤qg5 s.dreds[k] l[i].soil
 rotate_left
 ·rw[qtn hL h0 (by omega)]
  rw[decide_eq_false ho]at h3
  repeat'(first|((with_reducible apply(qaS 12 [[10],[]]));decide +kernel;rfl)|(with_reducible apply qaR)|(with_reducible apply qav)|(with_reducible apply qas)|(with_reducible apply qby)|(with_reducible apply qaA)|(with_reducible apply qcv)|(with_reducible apply qaw)|((with_reducible apply qa9);rfl;(intro id'))|((with_reducible apply qaT);rfl)|refine zS ?_|refine zA ?_|refine zF h3 ?_|(refine zI ?_;intro hlt)|(refine zC ?_ ?_<;>first|intro h|simp)|refine zE ?_|fail)
  all_goals try simp only[Int.toNat_natCast]at*
  all_goals first
   |exact absurd hL (by omega)
   |exact absurd (by assumption) h0
   |rfl
   |trace_state
 rw[decide_eq_true ho]at h3
 obtain⟨hko,e⟩:=qft ho
 have hoo:=hd.o _ hko
 rw[←e]at hoo
 have e1:=qgz (d:=s.dreds[k]) hL
 have e2:=qgA (d:=s.dreds[k]) hL
 rw[if_neg h0]at e1 e2
 have w1:0≤l[i].vol*(qcO s.dreds[k] l[i].soil).wear∧l[i].vol*(qcO s.dreds[k] l[i].soil).wear≤4800000000000000*1000:=qbN (a:=l[i].vol) (b:=(qcO s.dreds[k] l[i].soil).wear) (m:=4800000000000000) (n:=1000) (by omega) (by omega)
 have u1:=qxQ (60*l[i].vol) (1000000*(qcO s.dreds[k] l[i].soil).rate) (by omega) (by omega)
 have u2:=qxQ (l[i].vol*(qcO s.dreds[k] l[i].soil).wear) 1000000 (by omega) (by omega)
 obtain⟨hm3,hm4⟩:=qnk hd hv (i+1) (by omega) (fun j hj hj' hne=>by
  rcases Nat.lt_succ_iff_lt_or_eq.1 hj with h'|rfl
  ·exact hC j h' hj' hne
  ·exact ho)
 rw[e1]at hm3
 rw[e2]at hm4
 repeat'(first|((with_reducible (show evG _ _ _ _ _));first|((with_reducible apply(qaS 12 [[10],[]]));decide +kernel;rfl)|((with_reducible apply(qdR 12));decide +kernel;rfl)|((with_reducible apply(qdR 11));decide +kernel;rfl))|(with_reducible apply qaR)|(with_reducible apply qav)|(with_reducible apply qas)|(with_reducible apply qby)|(with_reducible apply qaA)|(with_reducible apply qcv)|(with_reducible apply qaw)|((with_reducible apply qa9);rfl;(intro id'))|((with_reducible apply qaT);rfl)|refine zS ?_|refine zA ?_|refine zF h3 ?_|refine zF u1 ?_|refine zF u2 ?_|(refine zI ?_;intro hlt)|(refine zC ?_ ?_<;>first|intro h|simp)|fail)
 all_goals try simp only[Int.toNat_natCast]at*
 all_goals first
  |exact absurd hL (by omega)
  |exact absurd (by assumption) h0
  |(refine⟨hL,fun j hj hj' hne=>?_,?_⟩
    ·rcases Nat.lt_succ_iff_lt_or_eq.1 hj with h'|rfl
     ·exact hC j h' hj' hne
     ·exact ho
    ·rw[e1,e2]
     exact qaa (nx:=96) (k:=0) (ns:=[]) (ks:=[12,11,3,5,9,10]) [(0,0),(2,2)] rfl (by simp) (by kernel_rfl))
  |trace_state
theorem qcw{s:Site}{l:List Cut}(h:qcy s l=0):OkSite s∧qls s l=0:=by
 unfold qcy at h
 split at h
 ·contradiction
 ·rename_i h1;exact⟨qtc (Classical.not_not.1 h1),h⟩
theorem qd7{s:Site}{l:List Cut}(h:qcy s l=0):l.length≤40∧∀i (hi:i<l.length),OkCut s l[i]:=by
 have h2:=(qcw h).2
 unfold qls at h2
 split at h2
 ·omega
 ·exact⟨by omega,fun i hi=>qH2 (qgt h2 hi).2⟩
theorem qBI{s:Site}{b:Grid}{c:Cut}(h:onE s b c=0):qcy s [c]=0∧OkSite s∧OkCut s c∧OkBed s b:=by
 rw[qBw]at h
 split at h
 ·contradiction
 ·rename_i h1
  have h1:=Classical.not_not.1 h1
  refine⟨h1,(qcw h1).1,(qd7 h1).2 0 (by simp),?_⟩
  unfold qG2 at h
  split at h
  ·contradiction
  ·rename_i h2
   have h2:=Classical.not_not.1 h2
   split at h
   ·rename_i h3;exact⟨qf4 h2,h2,h3⟩
   ·omega
def qcq(s:Site)(b:Grid)(c:Cut):Int×Int×Bool:=qiS (dredOf s c.dredger) (qbk s b c)
def qH4(s:Site)(b:Grid)(c:Cut):Int:=if onE s b c=0 then(qcq s b c).2.1 else 0
def qH5(s:Site)(b:Grid)(c:Cut):Int:=if onE s b c=0 then qBH (qcq s b c)else onE s b c
theorem qAh{d:Dred}{l:List Share}(h:(qiS d l).2.2=false):qiS d l=(0,0,false):=by
 unfold qiS at h ⊢
 split
 ·rfl
 ·rename_i hh;rw[if_neg hh]at h;cases h
theorem qDj(s:Site)(hz:Sized s)(hd:s.dreds.length<1000000000000)(b:Grid)(hbl:b.levels.length≤100)(c:Cut):Contract Tryz.prog 46 [.agg (encSite s),.agg (qag b),.agg (encCut c)] (.ret (.tup [.int .i64 (qH4 s b c),.int .i64 (qH5 s b c)])):=by
 have h1:=qpL s hz hd b (by omega) c
 unfold qH4 qH5
 by_cases h0:onE s b c=0
 ·rw[if_pos h0,if_pos h0]
  obtain⟨_,hs,hc,hb⟩:=qBI h0
  have h2:=qiz s hs hz b hb hbl c hc
  have h3:(qcq s b c).2.2=false→qcq s b c=(0,0,false):=fun h=>qAh h
  unfold qBH
  unfold qcq at*
  generalize qiS (dredOf s c.dredger) (qbk s b c)=e at*
  obtain⟨e1,e2,e3⟩:=e
  rw[h0]at h1
  cases e3 with
  |false=>
   obtain⟨rfl,rfl⟩:e1=0∧e2=0:=by simpa using h3
   refine zT mix Tryz.func46 Tryz.ntmps46 Tryz.results46 rfl rfl rfl ?_;simp only[qab,Nat.reduceAdd]
   repeat'(first|refine zQ ?_|refine zF h1 ?_|refine zF h2 ?_|refine zE ?_|fail)
   all_goals first
    |rfl
    |(exfalso;simp at *;done)
    |trace_state
  |true=>
   refine zT mix Tryz.func46 Tryz.ntmps46 Tryz.results46 rfl rfl rfl ?_;simp only[qab,Nat.reduceAdd]
   repeat'(first|refine zQ ?_|refine zF h1 ?_|refine zF h2 ?_|refine zE ?_|fail)
   all_goals first
    |rfl
    |(exfalso;simp at *;done)
    |trace_state
 ·rw[if_neg h0,if_neg h0]
  generalize onE s b c=q at*
  refine zT mix Tryz.func46 Tryz.ntmps46 Tryz.results46 rfl rfl rfl ?_;simp only[qab,Nat.reduceAdd]
  repeat'(first|refine zQ ?_|refine zF h1 ?_|(refine zC ?_ ?_<;>first|intro h|simp)|refine zE ?_|fail)
  all_goals first
   |rfl
   |(exfalso;omega)
   |trace_state
theorem qDk{d:Dred}(hd:OkDred d){l:List Share}(hv:VB l 4800000000000000)(h8:l.length≤8):(0≤(qiS d l).1∧(qiS d l).1≤2304000000000)∧(0≤(qiS d l).2.1∧(qiS d l).2.1≤2400000000000000000):=by
 unfold qiS
 split
 ·exact⟨⟨by show(0:Int)≤0;omega,by show(0:Int)≤_;omega⟩,⟨by show(0:Int)≤0;omega,by show(0:Int)≤_;omega⟩⟩
 ·rename_i hm
  have hC:∀j (hj:j<l.length) (hj':j<l.length),l[j].vol≠0→0≤qg5 d l[j].soil:=fun j hj hj' hne=>by
   rw[Bool.not_eq_true]at hm
   have:=List.any_eq_false.1 hm _ (List.getElem_mem hj)
   simp[hne]at this
   omega
  obtain⟨h1,h2⟩:=qnk hd hv l.length (Nat.le_refl _) hC
  rw[List.take_length]at h1 h2
  have hh:=hd.n.2.2.2.2.2
  have hp:0≤qhR d l*d.hour∧qhR d l*d.hour≤2304000000000*1000000:=qbN (a:=qhR d l) (b:=d.hour) (m:=2304000000000) (n:=1000000) (by omega) (by omega)
  have hu:=qlG (a:=qhR d l*d.hour) (b:=60) (by omega) (by omega)
  exact⟨⟨h1.1,by show qhR d l≤_;omega⟩,⟨by show 0≤qvE d l+_;omega,by show qvE d l+_≤_;omega⟩⟩
theorem qiA{s:Site}(ok:OkSite s){b:Grid}(hb:OkBed s b)(h100:b.levels.length≤100){c:Cut}(hc:OkCut s c):(0≤(qcq s b c).1∧(qcq s b c).1≤2304000000000)∧(0≤(qcq s b c).2.1∧(qcq s b c).2.1≤2400000000000000000):=
 qDk (ok.dredOf hc) (qlL ok.gr ok.bed hb h100 hc) (by rw[qkn];exact qfs (okG ok.gr))
theorem qp1(s:Site)(ok:OkSite s)(hz:Sized s)(b:Grid)(hb:OkBed s b)(h100:b.levels.length≤100)(c:Cut)(hc:OkCut s c):Contract Tryz.prog 183 [.agg (encSite s),.agg (qag b),.agg (encCut c)] (.ret (.agg [.int .i64 c.start,.int .i64 (c.start+(qcq s b c).1)])):=by
 have h2:=qiz s ok hz b hb h100 c hc
 have h3:=qiA ok hb h100 hc
 have h4:=hc.st
 unfold qcq at*
 generalize qiS (dredOf s c.dredger) (qbk s b c)=e at*
 obtain⟨e1,e2,e3⟩:=e
 simp only at h3
 refine zT mix Tryz.func183 Tryz.ntmps183 Tryz.results183 rfl rfl rfl ?_;simp only[qab,Nat.reduceAdd]
 repeat'(first|refine zQ ?_|refine zF h2 ?_|refine zE ?_|fail)
 all_goals first|rfl|trace_state
def qjl(s:Site)(b:Grid)(c:Cut):Bool:=decide (400<(qcq s b c).1∧(qcq s b c).1≤3000)
theorem qx0(s:Site)(ok:OkSite s)(hz:Sized s)(b:Grid)(hb:OkBed s b)(h100:b.levels.length≤100)(c:Cut)(hc:OkCut s c):Contract Tryz.prog 30 [.agg (encSite s),.agg (qag b),.agg (encCut c)] (.ret (.bool (qjl s b c))):=by
 have h2:=qko s ok hz b hb h100 c hc
 unfold qjl
 unfold qcq
 generalize qBH (qiS (dredOf s c.dredger) (qbk s b c))=x at*
 generalize qiS (dredOf s c.dredger) (qbk s b c)=e at*
 obtain⟨e1,e2,e3⟩:=e
 refine zT mix Tryz.func30 Tryz.ntmps30 Tryz.results30 rfl rfl rfl ?_;simp only[qab,Nat.reduceAdd]
 repeat'(first|refine zQ ?_|refine zF h2 ?_|(refine zG ?_ ?_<;>first|intro h|simp)|refine zE ?_|fail)
 all_goals first
  |(symm;exact decide_eq_false (by show ¬(400<e1∧e1≤3000);omega))
  |(refine decide_eq_decide.2 ?_;show _↔(400<e1∧e1≤3000);omega)
  |trace_state
def qgC(L:List Share)(k:Nat):Int:=match L[k]? with
 |some x=>x.vol
 |none=>0
def qf5(L:List Share)(k:Nat):Option ByteArray:=L[k]?.map (·.soil)
theorem qgD{L:List Share}{k:Nat}(h:k<L.length):qgC L k=L[k].vol:=by simp only[qgC,List.getElem?_eq_getElem h]
theorem qx8{L:List Share}{j k:Nat}{v:Int}(h:k<L.length):qgC (qs7 L j v) k=qgC L k+if j=k then v else 0:=by
 by_cases hj:j<L.length
 ·rw[qoi hj,qgD (by simpa using h),qgD h]
  by_cases e:j=k
  ·subst e;simp
  ·rw[List.getElem_set_ne e,if_neg e];simp
 ·have e:qs7 L j v=L:=by unfold qs7;rw[List.getElem?_eq_none (by omega)]
  rw[e,if_neg (by omega)];simp
theorem qvc{L:List Share}{j k:Nat}{v:Int}:qf5 (qs7 L j v) k=qf5 L k:=by
 unfold qs7
 split
 ·rename_i x hx
  unfold qf5
  by_cases e:j=k
  ·subst e
   have hj:j<L.length:=by
    rcases Nat.lt_or_ge j L.length with h|h
    ·exact h
    ·rw[List.getElem?_eq_none h]at hx;cases hx
   rw[List.getElem?_set_self hj,hx];rfl
  ·rw[List.getElem?_set_ne e]
 ·rfl
def qlS(g:Ground)(q:Part):Nat:=(qbj g.soils q.soil).toNat
theorem qts{g:Ground}{side:Int}(hs:0<side){L:List Share}{C:List Part}(hC:∀q∈C,q.bottom<q.top){k:Nat}(hk:k<L.length):∀j,j≤C.length→qgC L k≤qgC (qis g side L C j) k∧(qgC L k<qgC (qis g side L C j) k↔∃q∈C.take j,qlS g q=k)
 |0,_=>by simp[qis]
 |j+1,h=>by
  obtain⟨ih1,ih2⟩:=qts (g:=g) hs hC hk j (by omega)
  have hj:j<C.length:=by omega
  rw[qit g side L hj,qx8 (by rw[qiu];exact hk)]
  have hq:=hC _ (List.getElem_mem hj)
  have hv:0<(C[j].top-C[j].bottom)*side*side:=Int.mul_pos (Int.mul_pos (by omega) hs) hs
  by_cases e:(qbj g.soils C[j].soil).toNat=k
  ·rw[if_pos e]
   refine⟨by omega,⟨fun _=>⟨C[j],?_,e⟩,fun _=>by omega⟩⟩
   rw[List.take_succ_eq_append_getElem hj]
   exact List.mem_append_right _ (List.mem_singleton.2 rfl)
  ·rw[if_neg e,Int.add_zero]
   refine⟨ih1,ih2.trans ⟨?_,?_⟩⟩
   ·rintro⟨q,hq,h⟩
    exact⟨q,by rw[List.take_succ_eq_append_getElem hj];exact List.mem_append_left _ hq,h⟩
   ·rintro⟨q,hq,h⟩
    rw[List.take_succ_eq_append_getElem hj]at hq
    rcases List.mem_append.1 hq with hq|hq
    ·exact⟨q,hq,h⟩
    ·simp only[List.mem_singleton]at hq
     subst hq;exact absurd h e
theorem qqa{g:Ground}{side:Int}{L:List Share}{C:List Part}{k:Nat}:∀j,qf5 (qis g side L C j) k=qf5 L k
 |0=>rfl
 |j+1=>by
  have ih:=qqa (g:=g) (side:=side) (L:=L) (C:=C) (k:=k) j
  simp only[qis]
  split
  ·rw[qvc,ih]
  ·exact ih
theorem qhH{g:Ground}{m a:Grid}{k:Nat}:∀n,qf5 (qaN g m a n) k=g.soils[k]?.map (·.name)
 |0=>by
  unfold qf5 qaN
  rw[List.getElem?_map]
  cases g.soils[k]?<;>rfl
 |n+1=>by
  have ih:=qhH (g:=g) (m:=m) (a:=a) (k:=k) n
  simp only[qaN]
  split
  ·rw[qqa,ih]
  ·exact ih
theorem qjn{g:Ground}(hg:OkG g){m a:Grid}(hs:0<m.side){k:Nat}(hk:k<g.soils.length):∀n,0≤qgC (qaN g m a n) k∧(0<qgC (qaN g m a n) k↔∃i<n,(lv m.levels i≠30000∧lv a.levels i≠30000)∧∃q∈qcl g m a i,qlS g q=k)
 |0=>by
  have e:qgC (qaN g m a 0) k=0:=by
   rw[qgD (by simpa[qaN]using hk)]
   simp[qaN]
  rw[e];simp
 |n+1=>by
  obtain⟨ih1,ih2⟩:=qjn hg (a:=a) hs hk n
  simp only[qaN]
  split
  ·rename_i hkn
   have hC:∀q∈qcl g m a n,q.bottom<q.top:=fun q hq=>(qfU hg hq).1
   obtain⟨h1,h2⟩:=qts (g:=g) hs (L:=qaN g m a n) hC (k:=k) (by rw[qdM];exact hk) (qcl g m a n).length (Nat.le_refl _)
   rw[List.take_length]at h2
   refine⟨by omega,⟨fun h=>?_,?_⟩⟩
   ·by_cases h0:0<qgC (qaN g m a n) k
    ·obtain⟨i,hi,hh⟩:=ih2.1 h0
     exact⟨i,by omega,hh⟩
    ·exact⟨n,by omega,hkn,h2.1 (by omega)⟩
   ·rintro⟨i,hi,hh,hq⟩
    rcases Nat.lt_succ_iff_lt_or_eq.1 hi with h'|rfl
    ·have:=ih2.2 ⟨i,h',hh,hq⟩;omega
    ·have:=h2.2 hq;omega
  ·rename_i hkn
   refine⟨ih1,ih2.trans ⟨fun⟨i,hi,hh⟩=>⟨i,by omega,hh⟩,?_⟩⟩
   rintro⟨i,hi,hh,hq⟩
   rcases Nat.lt_succ_iff_lt_or_eq.1 hi with h'|rfl
   ·exact⟨i,h',hh,hq⟩
   ·exact absurd hh hkn
theorem qnm{g:Ground}{q:Part}(h:0≤qbj g.soils q.soil):g.soils[qlS g q]?.map (·.name)=some q.soil:=by
 unfold qlS
 unfold qbj qcs at h ⊢
 cases hf:g.soils.findIdx? (fun x=>decide (x.name=q.soil))with
 |none=>rw[hf]at h;simp at h
 |some i=>
  obtain⟨hi,h1,-⟩:=List.findIdx?_eq_some_iff_getElem.1 hf
  simp only[Int.toNat_natCast,List.getElem?_eq_getElem hi,Option.map_some]
  rw[of_decide_eq_true h1]
theorem qqb{s:Site}(hs:OkSite s){b:Grid}(hb:OkBed s b){c:Cut}(hc:OkCut s c)(n:ByteArray):(∃x∈qbk s b c,x.vol≠0∧x.soil=n)↔∃i∈qbB s b c,∃q∈qaI s.ground (qar b i) (lv b.levels i) c.level,q.soil=n:=by
 have hg:=okG hs.gr
 have hside:0<b.side:=by have:=hb.ok.bds;omega
 have hlow:=qeH hs.bed hb hc
 obtain⟨ha,hlt,hpos,hle⟩:=qbm hs.bed hc
 have hlen:=hb.len hs.bed
 have e:∀i,i∈qbB s b c→i<b.levels.length∧lv b.levels i≠30000∧lv (qcu s b c).levels i=c.level∧c.level<lv b.levels i:=fun i hi=>by
  obtain⟨h1,h2⟩:=List.mem_filter.1 hi
  have h2:=of_decide_eq_true h2
  have hil:i<b.levels.length:=by rw[hlen];exact hlt i h1
  refine⟨hil,h2.1,?_,h2.2⟩
  show lv (qfq b.levels (qaD s c) c.level) i=c.level
  rw[qcM hil,if_pos ⟨h1,h2.1⟩]
  omega
 have hlv:=hc.lvl
 constructor
 ·rintro⟨x,hx,hv,rfl⟩
  obtain⟨k,hk,rfl⟩:=List.mem_iff_getElem.1 hx
  have hk':k<s.ground.soils.length:=by have:=hk;rw[qbk,qdM]at this;exact this
  obtain⟨v0,v1⟩:=qjn hg (m:=b) (a:=qcu s b c) hside hk' b.levels.length
  have hvk:qgC (qbk s b c) k=(qbk s b c)[k].vol:=qgD hk
  obtain⟨i,hi,hkn,q,hq,hqk⟩:=v1.1 (by show 0<qgC (qbk s b c) k;have:0≤qgC (qbk s b c) k:=v0;omega)
  have hqp:=qfU hg hq
  have hqn:(qbk s b c)[k].soil=q.soil:=by
   have h1:=qhH (g:=s.ground) (m:=b) (a:=qcu s b c) (k:=k) b.levels.length
   rw[←hqk,qnm hqp.2.2.2.1,hqk]at h1
   have h2:qf5 (qbk s b c) k=some (qbk s b c)[k].soil:=by unfold qf5;rw[List.getElem?_eq_getElem hk];rfl
   have h3:qf5 (qbk s b c) k=some q.soil:=h1
   rw[h2]at h3;injection h3
  have hin:i∈qbB s b c:=by
   by_cases hin:i∈qaD s c∧c.level<lv b.levels i
   ·exact List.mem_filter.2 ⟨hin.1,decide_eq_true ⟨hkn.1,hin.2⟩⟩
   ·exfalso
    have:lv (qcu s b c).levels i=lv b.levels i:=by
     show lv (qfq b.levels (qaD s c) c.level) i=_
     rw[qcM hi]
     split
     ·rename_i h
      have h3:¬c.level<lv b.levels i:=fun h'=>hin ⟨h.1,h'⟩
      omega
     ·rfl
    unfold qcl at hq
    rw[this,qro hg (Int.le_refl _)]at hq
    simp at hq
  refine⟨i,hin,q,?_,hqn.symm⟩
  unfold qcl at hq
  rw[(e i hin).2.2.1]at hq
  exact hq
 ·rintro⟨i,hin,q,hq,rfl⟩
  obtain⟨hil,hk1,hk2,hk3⟩:=e i hin
  have hq2:q∈qcl s.ground b (qcu s b c) i:=by unfold qcl;rw[hk2];exact hq
  have hqp:=qfU hg hq
  have hk':qlS s.ground q<s.ground.soils.length:=hqp.2.2.2.2
  obtain⟨v0,v1⟩:=qjn hg (m:=b) (a:=qcu s b c) hside hk' b.levels.length
  have hp:=v1.2 ⟨i,hil,⟨hk1,by rw[hk2];omega⟩,q,hq2,rfl⟩
  have hk:qlS s.ground q<(qbk s b c).length:=by rw[qbk,qdM];exact hk'
  refine⟨(qbk s b c)[qlS s.ground q],List.getElem_mem hk,?_,?_⟩
  ·have:qgC (qbk s b c) (qlS s.ground q)=_:=qgD hk
   have hp':0<qgC (qbk s b c) (qlS s.ground q):=hp
   omega
  ·have h1:=qhH (g:=s.ground) (m:=b) (a:=qcu s b c) (k:=qlS s.ground q) b.levels.length
   rw[qnm hqp.2.2.2.1]at h1
   have h3:qf5 (qbk s b c) (qlS s.ground q)=some q.soil:=h1
   unfold qf5 at h3
   rw[List.getElem?_eq_getElem hk]at h3
   simpa using h3
theorem qAn{s:Site}(hs:OkSite s){b:Grid}(hb:OkBed s b){c:Cut}(hc:OkCut s c):qva (dredOf s c.dredger) (qbk s b c)=true↔∃i∈qbB s b c,qmt s b c i=true:=by
 have ht:=fun n=>qqb hs hb hc n
 constructor
 ·intro h
  obtain⟨x,hx,h1⟩:=List.any_eq_true.1 h
  rw[Bool.and_eq_true,decide_eq_true_eq,decide_eq_true_eq]at h1
  obtain⟨i,hi,q,hq,e⟩:=(ht x.soil).1 ⟨x,hx,h1.1,rfl⟩
  refine⟨i,hi,?_⟩
  unfold qmt qen qjm
  rw[Bool.not_not]
  exact List.any_eq_true.2 ⟨q,hq,decide_eq_true (by rw[e];exact h1.2)⟩
 ·rintro⟨i,hi,h⟩
  unfold qmt qen qjm at h
  rw[Bool.not_not]at h
  obtain⟨q,hq,h1⟩:=List.any_eq_true.1 h
  obtain⟨x,hx,hv,e⟩:=(ht q.soil).2 ⟨i,hi,q,hq,rfl⟩
  refine List.any_eq_true.2 ⟨x,hx,?_⟩
  rw[Bool.and_eq_true,decide_eq_true_eq,decide_eq_true_eq,e]
  exact⟨hv,of_decide_eq_true h1⟩
theorem qx9:∀(l:List Int),(∀x∈l,0≤x)→(∃x∈l,1≤x)→1≤l.sum
 |[],_,⟨x,h,_⟩=>by cases h
 |a::l,h0,⟨x,h,h1⟩=>by
  have ha:=h0 a (by simp)
  have hs:0≤l.sum:=by
   clear h h1
   induction l with
   |nil=>simp
   |cons b l ih=>
    have hb:=h0 b (by simp)
    have:=ih fun x hx=>h0 x (by rcases List.mem_cons.1 hx with e|e<;>simp[e])
    simp only[List.sum_cons];omega
  simp only[List.sum_cons]
  rcases List.mem_cons.1 h with rfl|h
  ·omega
  ·have:=qx9 l (fun x hx=>h0 x (by simp[hx])) ⟨x,h,h1⟩
   omega
theorem qrC{s:Site}(hs:OkSite s){b:Grid}(hb:OkBed s b)(h100:b.levels.length≤100){c:Cut}(hc:OkCut s c)(hl:0<(qbB s b c).length)(hm:qva (dredOf s c.dredger) (qbk s b c)=false):1≤(qcq s b c).1:=by
 have hv:=qlL hs.gr hs.bed hb h100 hc
 have hD:=hs.dredOf hc
 have e:(qcq s b c).1=qhR (dredOf s c.dredger) (qbk s b c):=by unfold qcq qiS;rw[if_neg (by rw[hm];simp)]
 rw[e]
 have hin:=List.getElem_mem hl
 obtain⟨h1,h2⟩:=List.mem_filter.1 hin
 have h2:=of_decide_eq_true h2
 have hcol:=(qzQ (okG hs.gr) (p:=qar b (qbB s b c)[0]) (f:=lv b.levels (qbB s b c)[0]) (t:=c.level) (by have:=h2.2;omega)).2
 have hne:∃q,q∈qaI s.ground (qar b (qbB s b c)[0]) (lv b.levels (qbB s b c)[0]) c.level:=by
  cases hcc:qaI s.ground (qar b (qbB s b c)[0]) (lv b.levels (qbB s b c)[0]) c.level with
  |nil=>
   rw[hcc]at hcol
   have:lv b.levels (qbB s b c)[0]=c.level:=hcol
   have:=h2.2
   omega
  |cons q r=>exact⟨q,by simp⟩
 obtain⟨q,hq⟩:=hne
 obtain⟨x,hx,hx0,hxs⟩:=(qqb hs hb hc q.soil).2 ⟨_,hin,q,hq,rfl⟩
 have hno:∀y∈qbk s b c,y.vol≠0→0≤qg5 (dredOf s c.dredger) y.soil:=fun y hy h0=>by
  rcases Int.lt_or_le (qg5 (dredOf s c.dredger) y.soil) 0 with h|h
  ·have:qva (dredOf s c.dredger) (qbk s b c)=true:=List.any_eq_true.2 ⟨y,hy,by rw[Bool.and_eq_true,decide_eq_true_eq,decide_eq_true_eq];exact⟨h0,h⟩⟩
   rw[hm]at this;cases this
  ·exact h
 have hterm:∀y∈qbk s b c,y.vol≠0→1≤upI (60*y.vol) (1000000*(qcO (dredOf s c.dredger) y.soil).rate):=fun y hy h0=>by
  obtain⟨hk,e⟩:=qft (hno y hy h0)
  have ho:=hD.o _ hk
  rw[←e]at ho
  obtain⟨i,hi,rfl⟩:=List.mem_iff_getElem.1 hy
  have hvi:=hv i hi
  unfold upI
  have:1*(1000000*(qcO (dredOf s c.dredger) (qbk s b c)[i].soil).rate)≤60*(qbk s b c)[i].vol+1000000*(qcO (dredOf s c.dredger) (qbk s b c)[i].soil).rate-1:=by omega
  exact Int.le_ediv_of_mul_le (by omega) this
 refine qx9 _ ?_ ⟨_,List.mem_map.2 ⟨x,hx,rfl⟩,?_⟩
 ·intro y hy
  obtain⟨z,hz,rfl⟩:=List.mem_map.1 hy
  by_cases h0:z.vol=0
  ·simp[h0]
  ·rw[if_neg h0];have:=hterm z hz h0;omega
 ·rw[if_neg hx0];exact hterm x hx hx0
def qoJ:Site:=⟨⟨0,0,1000,3,1,[-500,-500,-500]⟩,⟨[⟨"sand".toUTF8,100,1900,1,1⟩],[⟨"B".toUTF8,0,0,[⟨0, "sand".toUTF8⟩]⟩]⟩,[],[],[⟨"g".toUTF8,0,0,[⟨0,0⟩,⟨100000,0⟩]⟩],[⟨"c".toUTF8,0,1000,2,1,200,6000,[⟨"sand".toUTF8,100,50⟩]⟩]⟩
theorem qtt{P:Program}(hmix:P.follows .mixedOrders=true){fuel k:Nat}{c:Code}{st:St}{rv:ResultVar}{r:D}(h:(match qmh P (qBg P fuel k).1 (qBg P fuel k).2 fuel c st with
  |some (.ret,s)=>(qb7 P s rv).bind fun d=>pur (lkH s.hp) 64 d
  |_=>none)=some r) (hr:qjE r=true):evG qcr P c (qg3 P [rv] (.ret r)) st:=by
 split at h
 ·rename_i s hs
  cases hd:qb7 P s rv with
  |none=>rw[hd]at h;cases h
  |some d=>
   rw[hd]at h
   exact qjc qej (qjf hmix k).1 (qjf hmix k).2 _ _ _ _ _ hs (by
    cases s
    exact qif hd h hr)
 ·cases h
theorem qFs:Contract Tryz.prog 80 [] (.ret (.agg (encSite qoJ))):=by
 refine zT mix Tryz.func80 Tryz.ntmps80 Tryz.results80 rfl rfl rfl ?_;simp only[qab,Nat.reduceAdd]
 exact qtt (fuel:=1000) (k:=20) mix (by kernel_rfl) rfl
theorem qAz(m:Grid)(i k n:Nat)(hk:k<n):(qbi m i n).any (fun x=>decide ((k:Int)=x))=qbl m i k:=by
 cases hb:qbl m i k
 ·refine Bool.eq_false_iff.2 fun h=>?_
  obtain⟨x,hx,hkx⟩:=List.any_eq_true.1 h
  have hkx:(k:Int)=x:=by simpa using hkx
  subst hkx
  obtain⟨j,h1,h2,h3⟩:=(qcW m i _ n).1 hx
  have:k=j:=by omega
  subst this
  rw[hb]at h3
  cases h3
 ·exact List.any_eq_true.2 ⟨(k:Int),(qcW m i _ n).2 ⟨k,hk,rfl,hb⟩,by simp⟩
def qc2(g:Ground)(m:Grid)(a b:Int):Int×Int:=
 if qbg g [m]≠0 then(0,qbg g [m])else if ¬((0≤a∧a<m.levels.length)∧0≤b∧b<m.levels.length)then(0,6)
 else if qbl m a.toNat b.toNat=true then(qba g m a.toNat b.toNat,0)else(0,3)
theorem c58(g:Ground)(hs:g.soils.length<1000000000000)(hb:g.borings.length<1000000000000)(m:Grid)(hl:m.levels.length<1000000000000)(a b:Int):
  Contract Tryz.prog 149 [.agg (qam g),.agg (qag m),.int .i64 a,.int .i64 b] (.ret (.tup [.int .i64 (qc2 g m a b).1,.int .i64 (qc2 g m a b).2])):=by
 have h93:=c93 g hs hb [m] (by simp) (by simpa using hl)
 by_cases h:qbg g [m]=0
 ·obtain⟨h1,h2⟩:=qs5 h
  have hm:=qf4 h2
  have hg:=okG h1
  rw[h]at h93
  by_cases hr:(0≤a∧a<m.levels.length)∧0≤b∧b<m.levels.length
  ·obtain⟨i,rfl⟩:=Int.eq_ofNat_of_zero_le hr.1.1
   obtain⟨k,rfl⟩:=Int.eq_ofNat_of_zero_le hr.2.1
   have hi:i<m.levels.length:=by omega
   have hk:k<m.levels.length:=by omega
   have hsm:=hm.small
   have hnl:=qd0 m i m.levels.length
   have e:qc2 g m i k=if qbl m i k=true then(qba g m i k,0)else(0,3):=by
    unfold qc2;rw[if_neg (by simp[h]),if_neg (by omega)];rfl
   have h109:=qKt (qbi m i m.levels.length) (by omega) k
   rw[qAz m i k _ hk]at h109
   rw[e]
   refine zT mix Tryz.func149 Tryz.ntmps149 Tryz.results149 rfl rfl rfl ?_;simp only[qab,Nat.reduceAdd]
   repeat'(first|((with_reducible (show qap _ (.call _) _ _ _ _));first|((with_reducible apply qae);rfl;(exact qD3 _ _ _);rfl)|((with_reducible apply(qic (cs:=qag m)));rfl;(exact c94 g hg hs m hm h2);(exact qbL);rfl;rfl;rfl;rfl;rfl)|((with_reducible apply qdT);(exact qnX (cs:=qag m) rfl (by simp) rfl rfl rfl);(exact qKr g m hm h2 i hi);(exact qbL);rfl)|((with_reducible apply qae);(exact qbT rfl (by simp) rfl);(exact h109);rfl)|((with_reducible apply qaj);(exact qnX (cs:=qag m) rfl (by simp;try assumption) rfl rfl rfl);(exact qKs g hg m hm i k hi hk);rfl))|refine zQ ?_|refine zF h93 ?_|(refine zC ?_ ?_<;>first|intro h|simp)|(refine zG ?_ ?_<;>first|intro h|simp)|refine zE ?_|fail)
   all_goals first
    |(exfalso;omega)
    |(rw[if_pos ‹qbl m i k=true›];rfl)
    |(rw[if_neg (by rw[‹qbl m i k=false›];simp)];rfl)
  ·have e:qc2 g m a b=(0,6):=by
    unfold qc2;rw[if_neg (by simp[h]),if_pos hr]
   rw[e]
   refine zT mix Tryz.func149 Tryz.ntmps149 Tryz.results149 rfl rfl rfl ?_;simp only[qab,Nat.reduceAdd]
   repeat'(first|((with_reducible apply qae);rfl;(exact qD3 _ _ _);rfl)|refine zQ ?_|refine zF h93 ?_|(refine zC ?_ ?_<;>first|intro h|simp)|(refine zG ?_ ?_<;>first|intro h|simp)|refine zE ?_|fail)
   all_goals first
    |(exfalso;omega)
    |rfl
 ·have e:qc2 g m a b=(0,qbg g [m]):=by
   unfold qc2;rw[if_pos h]
  rw[e]
  refine zT mix Tryz.func149 Tryz.ntmps149 Tryz.results149 rfl rfl rfl ?_;simp only[qab,Nat.reduceAdd]
  repeat'(first|refine zQ ?_|refine zF h93 ?_|(refine zC ?_ ?_<;>first|intro h|simp)|refine zE ?_|fail)
  all_goals first
   |rfl
   |exact absurd ‹qbg g [m]=0› h
   |(exfalso;omega)
instance qMe:TEq Tryz.prog 113 [.i,.i,.i]:=⟨by kernel_rfl⟩
end Go.Pv.Soil

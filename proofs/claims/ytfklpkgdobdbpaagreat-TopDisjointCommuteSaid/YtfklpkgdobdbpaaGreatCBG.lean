import Derived.Tactics
import Derived.Tactics2
import Derived.Laws.Pointers
import Derived.Test.YtfklpkgdobdbpaaGreatCBD
import Derived.Test.YtfklpkgdobdbpaaGreatCBF
/- Part of the proofs over YtfklpkgdobdbpaaGreat: N17, N18, N30, N1. -/
set_option linter.unusedVariables false
set_option linter.unusedSimpArgs false
set_option linter.unnecessarySimpa false
open Go Go.Proofs Go.Pv
set_option maxHeartbeats 8000000
set_option maxRecDepth 100000
set_option linter.unusedSimpArgs false
set_option linter.unusedVariables false
namespace Go.Pv.Soil
def qyn(e:Int×Int×Bool):Int:=if e.2.2=true then 0 else 6
theorem qng(s:Site)(ok:OkSite s)(hz:Sized s)(b:Grid)(hb:OkBed s b)(h100:b.levels.length≤100)(c:Cut)(hc:OkCut s c):Contract Tryz.prog 48 [.agg (encSite s),.agg (encGrid b),.agg (encCut c)]
  (.ret (.tup [.int .i64 (qjb (dredOf s c.dredger) (qbb s b c)).1,.int .i64 (qjb (dredOf s c.dredger) (qbb s b c)).2.1,.int .i64 (qyn (qjb (dredOf s c.dredger) (qbb s b c)))])):=by
 have h1:=qb4 s (by have:=ok.dreds;omega) c.dredger
 have h2:=qvZ s ok.gr hz ok.bed b hb c hc
 have hd:=ok.dredOf hc
 have hv:=qkZ ok.gr ok.bed hb h100 hc
 have h8:(qbb s b c).length≤8:=by rw[qh6];exact qe0 (okG ok.gr)
 have hh:=hd.n.2.2.2.2.2
 have hl:=hd.l
 have hro:=fun n=>qrJ s (by have:=ok.dreds;omega) c hc.dr (by omega) n
 obtain⟨hk,ed⟩:=qcc hc.dr
 obtain⟨k,ek⟩:=Int.eq_ofNat_of_zero_le hc.dr
 have hkk:(qcT s c.dredger).toNat=k:=by omega
 rw[ek]at h1
 simp only[hkk]at hk ed
 generalize dredOf s c.dredger=d at*
 subst ed
 generalize qbb s b c=l at*
 refine zT mix Tryz.func48 Tryz.ntmps48 Tryz.results48 rfl rfl rfl ?_;simp only[qac,Nat.reduceAdd]
 repeat'(first|refine zQ ?_|refine zF h2 ?_|fail)
 refine qaf l.length (fun i=>⟨[(12,.int .i64 i),(11,.sl (l.map qa5)),(3,.op 0 0 0),(5,.op 2 0 0),(9,.int .i64 (qhq s.dreds[k] (l.take i))),(10,.int .i64 (qtF s.dreds[k] (l.take i)))],[(0,⟨12,true,[encSite s]⟩),(2,⟨8,true,[encCut c]⟩)],96,82⟩) (fun i=>∀j (hj:j<i) (hj':j<l.length),l[j].vol≠0→0≤qgD s.dreds[k] l[j].soil) (qaa (nx:=96) (k:=0) (ns:=[]) (ks:=[12,11,3,5,9,10]) [(0,0),(64,2)] rfl (by simp) (by kernel_rfl)) (by omega) ?_
 intro i hi hC
 obtain⟨hm1,hm2⟩:=qmg hd hv i hi hC
 by_cases hL:i<l.length
 rotate_left
 ·obtain rfl:i=l.length:=by omega
  rw[qv8 fun j hj=>hC j hj hj]
  rw[List.take_length]at*
  have hp:0≤qhq s.dreds[k] l*s.dreds[k].hour∧qhq s.dreds[k] l*s.dreds[k].hour≤2304000000000*1000000:=qbx (a:=qhq s.dreds[k] l) (b:=s.dreds[k].hour) (m:=2304000000000) (n:=1000000) (by omega) (by omega)
  have hu:=qv1 (qhq s.dreds[k] l*s.dreds[k].hour) 60 (by omega) (by omega)
  have hub:=qkV (a:=qhq s.dreds[k] l*s.dreds[k].hour) (b:=60) (by omega) (by omega)
  repeat'(first|((with_reducible apply(qba 12 [[10],[]]));decide +kernel;rfl)|refine zS ?_|refine zA ?_|refine zF h1 ?_|refine zF hu ?_|(refine zI ?_;intro hlt)|(refine zC ?_ ?_<;>first|intro h|simp)|refine zE ?_|fail)
  all_goals first
   |exact absurd (show l.length<l.length by omega) hL
   |rfl
   |trace_state
 have hvi:=hv i hL
 by_cases h0:l[i].vol=0
 ·have e1:=qf8 (d:=s.dreds[k]) hL
  have e2:=qf9 (d:=s.dreds[k]) hL
  rw[if_pos h0,Int.add_zero]at e1 e2
  repeat'(first|((with_reducible apply(qba 12 [[10],[]]));decide +kernel;rfl)|refine zS ?_|refine zA ?_|(refine zI ?_;intro hlt)|(refine zC ?_ ?_<;>first|intro h|simp)|fail)
  all_goals try simp only[Int.toNat_natCast]at*
  all_goals first
   |exact absurd hL (by omega)
   |exact absurd (by assumption) h0
   |exact absurd h0 (by assumption)
   |(refine⟨hL,fun j hj hj' hne=>?_,?_⟩
     ·rcases Nat.lt_succ_iff_lt_or_eq.1 hj with h'|rfl
      ·exact hC j h' hj' hne
      ·exact absurd h0 hne
     ·rw[e1,e2]
      exact qaa (nx:=96) (k:=0) (ns:=[]) (ks:=[12,11,3,5,9,10]) [(0,0),(2,2)] rfl (by simp) (by kernel_rfl))
   |trace_state
 have h3:=hro l[i].soil
 by_cases ho:0≤qgD s.dreds[k] l[i].soil
 rotate_left
 ·rw[qrT hL h0 (by omega)]
  rw[decide_eq_false ho]at h3
  repeat'(first|((with_reducible apply(qba 12 [[10],[]]));decide +kernel;rfl)|(with_reducible apply qa1)|(with_reducible apply qax)|(with_reducible apply qav)|(with_reducible apply qb1)|(with_reducible apply qaF)|(with_reducible apply qc4)|(with_reducible apply qay)|((with_reducible apply qbn);rfl;(intro id'))|((with_reducible apply qa2);rfl)|refine zS ?_|refine zA ?_|refine zF h3 ?_|(refine zI ?_;intro hlt)|(refine zC ?_ ?_<;>first|intro h|simp)|refine zE ?_|fail)
  all_goals try simp only[Int.toNat_natCast]at*
  all_goals first
   |exact absurd hL (by omega)
   |exact absurd (by assumption) h0
   |rfl
   |trace_state
 rw[decide_eq_true ho]at h3
 obtain⟨hko,e⟩:=qe1 ho
 have hoo:=hd.o _ hko
 rw[←e]at hoo
 have e1:=qf8 (d:=s.dreds[k]) hL
 have e2:=qf9 (d:=s.dreds[k]) hL
 rw[if_neg h0]at e1 e2
 have w1:0≤l[i].vol*(qcy s.dreds[k] l[i].soil).wear∧l[i].vol*(qcy s.dreds[k] l[i].soil).wear≤4800000000000000*1000:=qbx (a:=l[i].vol) (b:=(qcy s.dreds[k] l[i].soil).wear) (m:=4800000000000000) (n:=1000) (by omega) (by omega)
 have u1:=qv1 (60*l[i].vol) (1000000*(qcy s.dreds[k] l[i].soil).rate) (by omega) (by omega)
 have u2:=qv1 (l[i].vol*(qcy s.dreds[k] l[i].soil).wear) 1000000 (by omega) (by omega)
 obtain⟨hm3,hm4⟩:=qmg hd hv (i+1) (by omega) (fun j hj hj' hne=>by
  rcases Nat.lt_succ_iff_lt_or_eq.1 hj with h'|rfl
  ·exact hC j h' hj' hne
  ·exact ho)
 rw[e1]at hm3
 rw[e2]at hm4
 repeat'(first|((with_reducible (show evG _ _ _ _ _));first|((with_reducible apply(qba 12 [[10],[]]));decide +kernel;rfl)|((with_reducible apply(qdZ 12));decide +kernel;rfl)|((with_reducible apply(qdZ 11));decide +kernel;rfl))|(with_reducible apply qa1)|(with_reducible apply qax)|(with_reducible apply qav)|(with_reducible apply qb1)|(with_reducible apply qaF)|(with_reducible apply qc4)|(with_reducible apply qay)|((with_reducible apply qbn);rfl;(intro id'))|((with_reducible apply qa2);rfl)|refine zS ?_|refine zA ?_|refine zF h3 ?_|refine zF u1 ?_|refine zF u2 ?_|(refine zI ?_;intro hlt)|(refine zC ?_ ?_<;>first|intro h|simp)|fail)
 all_goals try simp only[Int.toNat_natCast]at*
 all_goals first
  |exact absurd hL (by omega)
  |exact absurd (by assumption) h0
  |(refine⟨hL,fun j hj hj' hne=>?_,?_⟩
    ·rcases Nat.lt_succ_iff_lt_or_eq.1 hj with h'|rfl
     ·exact hC j h' hj' hne
     ·exact ho
    ·rw[e1,e2]
     exact qaa (nx:=96) (k:=0) (ns:=[]) (ks:=[12,11,3,5,9,10]) [(0,0),(2,2)] rfl (by simp) (by kernel_rfl))
  |trace_state
theorem qd4{s:Site}{l:List Cut}(h:qde s l=0):OkSite s∧qlp s l=0:=by
 unfold qde at h
 split at h
 ·contradiction
 ·rename_i h1;exact⟨qzv (Classical.not_not.1 h1),h⟩
theorem qfp{s:Site}{l:List Cut}(h:qde s l=0):l.length≤40∧∀i (hi:i<l.length),OkCut s l[i]:=by
 have h2:=(qd4 h).2
 unfold qlp at h2
 split at h2
 ·omega
 ·exact⟨by omega,fun i hi=>qFQ (qhN h2 hi).2⟩
theorem qk0{s:Site}{b:Grid}{c:Cut}(h:onE s b c=0):qde s [c]=0∧OkSite s∧OkCut s c∧OkBed s b:=by
 rw[qoG]at h
 split at h
 ·contradiction
 ·rename_i h1
  have h1:=Classical.not_not.1 h1
  refine⟨h1,(qd4 h1).1,(qfp h1).2 0 (by simp),?_⟩
  unfold qCV at h
  split at h
  ·contradiction
  ·rename_i h2
   have h2:=Classical.not_not.1 h2
   split at h
   ·rename_i h3;exact⟨qfx h2,h2,h3⟩
   ·omega
def qyo(s:Site)(c:Cut):List Nat:=if qde s [c]=0 then qaH s c else []
def qC6(s:Site)(b:Grid)(c:Cut):Grid:=if onE s b c=0 then qeL s b c else qna
def qv9(s:Site)(b:Grid)(c:Cut):List Share:=if onE s b c=0 then qbb s b c else []
def qbR(s:Site)(b:Grid)(c:Cut):Int×Int×Bool:=qjb (dredOf s c.dredger) (qbb s b c)
theorem qqe(s:Site)(hz:Sized s)(hd:s.dreds.length<1000000000000)(c:Cut):Contract Tryz.prog 42 [.agg (encSite s),.agg (encCut c)] (.ret (.tup [.sl ((qyo s c).map qcX),.int .i64 (qde s [c])])):=by
 have h1:Contract Tryz.prog 26 [.agg (encSite s),.sl [encCut c]] (.ret (.int .i64 (qde s [c]))):=qcm s hz [c] (by simp) hd
 unfold qyo
 by_cases h0:qde s [c]=0
 ·rw[if_pos h0]
  have h2:=qdv s (qd4 h0).1.bed c ((qfp h0).2 0 (by simp))
  rw[h0]at h1 ⊢
  refine zT mix Tryz.func42 Tryz.ntmps42 Tryz.results42 rfl rfl rfl ?_;simp only[qac,Nat.reduceAdd]
  repeat'(first|refine zQ ?_|refine zF h1 ?_|refine zF h2 ?_|fail)
  all_goals first
   |exact qcs rfl rfl rfl rfl
   |(exfalso;simp at *;done)
   |trace_state
 ·rw[if_neg h0]
  generalize qde s [c]=q at*
  refine zT mix Tryz.func42 Tryz.ntmps42 Tryz.results42 rfl rfl rfl ?_;simp only[qac,Nat.reduceAdd]
  repeat'(first|refine zQ ?_|refine zF h1 ?_|(refine zC ?_ ?_<;>first|intro h|simp)|fail)
  all_goals first
   |exact qcs rfl rfl rfl rfl
   |(exfalso;omega)
   |trace_state
theorem qwa(s:Site)(hz:Sized s)(hd:s.dreds.length<1000000000000)(b:Grid)(hbl:b.levels.length<1000000000000)(c:Cut):Contract Tryz.prog 44 [.agg (encSite s),.agg (encGrid b),.agg (encCut c)] (.ret (.tup [.agg (encGrid (qC6 s b c)),.int .i64 (onE s b c)])):=by
 have h1:=qf1 s hz hd b hbl c
 unfold qC6
 by_cases h0:onE s b c=0
 ·rw[if_pos h0]
  obtain⟨_,hs,hc,hb⟩:=qk0 h0
  have h2:=qf4 s hs.bed b hb c hc
  rw[h0]at h1 ⊢
  refine zT mix Tryz.func44 Tryz.ntmps44 Tryz.results44 rfl rfl rfl ?_;simp only[qac,Nat.reduceAdd]
  repeat'(first|refine zQ ?_|refine zF h1 ?_|refine zF h2 ?_|fail)
  all_goals first
   |exact qcs rfl rfl rfl rfl
   |(exfalso;simp at *;done)
   |trace_state
 ·rw[if_neg h0]
  generalize onE s b c=q at*
  refine zT mix Tryz.func44 Tryz.ntmps44 Tryz.results44 rfl rfl rfl ?_;simp only[qac,Nat.reduceAdd]
  repeat'(first|refine zQ ?_|refine zF h1 ?_|(refine zC ?_ ?_<;>first|intro h|simp)|fail)
  all_goals first
   |exact qcs rfl rfl rfl rfl
   |(exfalso;omega)
   |trace_state
theorem qBf(s:Site)(hz:Sized s)(hd:s.dreds.length<1000000000000)(b:Grid)(hbl:b.levels.length<1000000000000)(c:Cut):Contract Tryz.prog 40 [.agg (encSite s),.agg (encGrid b),.agg (encCut c)] (.ret (.tup [.sl ((qv9 s b c).map qa5),.int .i64 (onE s b c)])):=by
 have h1:=qf1 s hz hd b hbl c
 unfold qv9
 by_cases h0:onE s b c=0
 ·rw[if_pos h0]
  obtain⟨_,hs,hc,hb⟩:=qk0 h0
  have h2:=qvY s hs.gr hz hs.bed b hb c hc
  rw[h0]at h1 ⊢
  refine zT mix Tryz.func40 Tryz.ntmps40 Tryz.results40 rfl rfl rfl ?_;simp only[qac,Nat.reduceAdd]
  repeat'(first|refine zQ ?_|refine zF h1 ?_|refine zF h2 ?_|fail)
  all_goals first
   |exact qcs rfl rfl rfl rfl
   |(exfalso;simp at *;done)
   |trace_state
 ·rw[if_neg h0]
  generalize onE s b c=q at*
  refine zT mix Tryz.func40 Tryz.ntmps40 Tryz.results40 rfl rfl rfl ?_;simp only[qac,Nat.reduceAdd]
  repeat'(first|refine zQ ?_|refine zF h1 ?_|(refine zC ?_ ?_<;>first|intro h|simp)|fail)
  all_goals first
   |exact qcs rfl rfl rfl rfl
   |(exfalso;omega)
   |trace_state
def qC7(s:Site)(b:Grid)(c:Cut):Int:=if onE s b c=0 then(qbR s b c).1 else 0
def qBZ(s:Site)(b:Grid)(c:Cut):Int:=if onE s b c=0 then(qbR s b c).2.1 else 0
def qzC(s:Site)(b:Grid)(c:Cut):Int:=if onE s b c=0 then qyn (qbR s b c)else onE s b c
theorem qrU{d:Dred}{l:List Share}(h:(qjb d l).2.2=false):qjb d l=(0,0,false):=by
 unfold qjb at h ⊢
 split
 ·rfl
 ·rename_i hh;rw[if_neg hh]at h;cases h
theorem qwb(s:Site)(hz:Sized s)(hd:s.dreds.length<1000000000000)(b:Grid)(hbl:b.levels.length≤100)(c:Cut):Contract Tryz.prog 45 [.agg (encSite s),.agg (encGrid b),.agg (encCut c)] (.ret (.tup [.int .i64 (qC7 s b c),.int .i64 (qzC s b c)])):=by
 have h1:=qf1 s hz hd b (by omega) c
 unfold qC7 qzC
 by_cases h0:onE s b c=0
 ·rw[if_pos h0,if_pos h0]
  obtain⟨_,hs,hc,hb⟩:=qk0 h0
  have h2:=qgw s hs hz b hb hbl c hc
  have h3:(qbR s b c).2.2=false→qbR s b c=(0,0,false):=fun h=>qrU h
  unfold qyn
  unfold qbR at*
  generalize qjb (dredOf s c.dredger) (qbb s b c)=e at*
  obtain⟨e1,e2,e3⟩:=e
  rw[h0]at h1
  cases e3 with
  |false=>
   obtain⟨rfl,rfl⟩:e1=0∧e2=0:=by simpa using h3
   refine zT mix Tryz.func45 Tryz.ntmps45 Tryz.results45 rfl rfl rfl ?_;simp only[qac,Nat.reduceAdd]
   repeat'(first|refine zQ ?_|refine zF h1 ?_|refine zF h2 ?_|refine zE ?_|fail)
   all_goals first
    |rfl
    |(exfalso;simp at *;done)
    |trace_state
  |true=>
   refine zT mix Tryz.func45 Tryz.ntmps45 Tryz.results45 rfl rfl rfl ?_;simp only[qac,Nat.reduceAdd]
   repeat'(first|refine zQ ?_|refine zF h1 ?_|refine zF h2 ?_|refine zE ?_|fail)
   all_goals first
    |rfl
    |(exfalso;simp at *;done)
    |trace_state
 ·rw[if_neg h0,if_neg h0]
  generalize onE s b c=q at*
  refine zT mix Tryz.func45 Tryz.ntmps45 Tryz.results45 rfl rfl rfl ?_;simp only[qac,Nat.reduceAdd]
  repeat'(first|refine zQ ?_|refine zF h1 ?_|(refine zC ?_ ?_<;>first|intro h|simp)|refine zE ?_|fail)
  all_goals first
   |rfl
   |(exfalso;omega)
   |trace_state
theorem qwc(s:Site)(hz:Sized s)(hd:s.dreds.length<1000000000000)(b:Grid)(hbl:b.levels.length≤100)(c:Cut):Contract Tryz.prog 46 [.agg (encSite s),.agg (encGrid b),.agg (encCut c)] (.ret (.tup [.int .i64 (qBZ s b c),.int .i64 (qzC s b c)])):=by
 have h1:=qf1 s hz hd b (by omega) c
 unfold qBZ qzC
 by_cases h0:onE s b c=0
 ·rw[if_pos h0,if_pos h0]
  obtain⟨_,hs,hc,hb⟩:=qk0 h0
  have h2:=qgw s hs hz b hb hbl c hc
  have h3:(qbR s b c).2.2=false→qbR s b c=(0,0,false):=fun h=>qrU h
  unfold qyn
  unfold qbR at*
  generalize qjb (dredOf s c.dredger) (qbb s b c)=e at*
  obtain⟨e1,e2,e3⟩:=e
  rw[h0]at h1
  cases e3 with
  |false=>
   obtain⟨rfl,rfl⟩:e1=0∧e2=0:=by simpa using h3
   refine zT mix Tryz.func46 Tryz.ntmps46 Tryz.results46 rfl rfl rfl ?_;simp only[qac,Nat.reduceAdd]
   repeat'(first|refine zQ ?_|refine zF h1 ?_|refine zF h2 ?_|refine zE ?_|fail)
   all_goals first
    |rfl
    |(exfalso;simp at *;done)
    |trace_state
  |true=>
   refine zT mix Tryz.func46 Tryz.ntmps46 Tryz.results46 rfl rfl rfl ?_;simp only[qac,Nat.reduceAdd]
   repeat'(first|refine zQ ?_|refine zF h1 ?_|refine zF h2 ?_|refine zE ?_|fail)
   all_goals first
    |rfl
    |(exfalso;simp at *;done)
    |trace_state
 ·rw[if_neg h0,if_neg h0]
  generalize onE s b c=q at*
  refine zT mix Tryz.func46 Tryz.ntmps46 Tryz.results46 rfl rfl rfl ?_;simp only[qac,Nat.reduceAdd]
  repeat'(first|refine zQ ?_|refine zF h1 ?_|(refine zC ?_ ?_<;>first|intro h|simp)|refine zE ?_|fail)
  all_goals first
   |rfl
   |(exfalso;omega)
   |trace_state
theorem qBg{d:Dred}(hd:OkDred d){l:List Share}(hv:VB l 4800000000000000)(h8:l.length≤8):(0≤(qjb d l).1∧(qjb d l).1≤2304000000000)∧(0≤(qjb d l).2.1∧(qjb d l).2.1≤2400000000000000000):=by
 unfold qjb
 split
 ·exact⟨⟨by show(0:Int)≤0;omega,by show(0:Int)≤_;omega⟩,⟨by show(0:Int)≤0;omega,by show(0:Int)≤_;omega⟩⟩
 ·rename_i hm
  have hC:∀j (hj:j<l.length) (hj':j<l.length),l[j].vol≠0→0≤qgD d l[j].soil:=fun j hj hj' hne=>by
   rw[Bool.not_eq_true]at hm
   have:=List.any_eq_false.1 hm _ (List.getElem_mem hj)
   simp[hne]at this
   omega
  obtain⟨h1,h2⟩:=qmg hd hv l.length (Nat.le_refl _) hC
  rw[List.take_length]at h1 h2
  have hh:=hd.n.2.2.2.2.2
  have hp:0≤qhq d l*d.hour∧qhq d l*d.hour≤2304000000000*1000000:=qbx (a:=qhq d l) (b:=d.hour) (m:=2304000000000) (n:=1000000) (by omega) (by omega)
  have hu:=qkV (a:=qhq d l*d.hour) (b:=60) (by omega) (by omega)
  exact⟨⟨h1.1,by show qhq d l≤_;omega⟩,⟨by show 0≤qtF d l+_;omega,by show qtF d l+_≤_;omega⟩⟩
theorem qjI{s:Site}(ok:OkSite s){b:Grid}(hb:OkBed s b)(h100:b.levels.length≤100){c:Cut}(hc:OkCut s c):(0≤(qbR s b c).1∧(qbR s b c).1≤2304000000000)∧(0≤(qbR s b c).2.1∧(qbR s b c).2.1≤2400000000000000000):=
 qBg (ok.dredOf hc) (qkZ ok.gr ok.bed hb h100 hc) (by rw[qh6];exact qe0 (okG ok.gr))
theorem qoW(s:Site)(ok:OkSite s)(hz:Sized s)(b:Grid)(hb:OkBed s b)(h100:b.levels.length≤100)(c:Cut)(hc:OkCut s c):Contract Tryz.prog 183 [.agg (encSite s),.agg (encGrid b),.agg (encCut c)] (.ret (.agg [.int .i64 c.start,.int .i64 (c.start+(qbR s b c).1)])):=by
 have h2:=qgw s ok hz b hb h100 c hc
 have h3:=qjI ok hb h100 hc
 have h4:=hc.st
 unfold qbR at*
 generalize qjb (dredOf s c.dredger) (qbb s b c)=e at*
 obtain⟨e1,e2,e3⟩:=e
 simp only at h3
 refine zT mix Tryz.func183 Tryz.ntmps183 Tryz.results183 rfl rfl rfl ?_;simp only[qac,Nat.reduceAdd]
 repeat'(first|refine zQ ?_|refine zF h2 ?_|refine zE ?_|fail)
 all_goals first|rfl|trace_state
def qBh(s:Site)(b:Grid)(c:Cut):Bool:=decide (400<(qbR s b c).1∧(qbR s b c).1≤3000)
theorem qC8(s:Site)(ok:OkSite s)(hz:Sized s)(b:Grid)(hb:OkBed s b)(h100:b.levels.length≤100)(c:Cut)(hc:OkCut s c):Contract Tryz.prog 30 [.agg (encSite s),.agg (encGrid b),.agg (encCut c)] (.ret (.bool (qBh s b c))):=by
 have h2:=qng s ok hz b hb h100 c hc
 unfold qBh
 unfold qbR
 generalize qyn (qjb (dredOf s c.dredger) (qbb s b c))=x at*
 generalize qjb (dredOf s c.dredger) (qbb s b c)=e at*
 obtain⟨e1,e2,e3⟩:=e
 refine zT mix Tryz.func30 Tryz.ntmps30 Tryz.results30 rfl rfl rfl ?_;simp only[qac,Nat.reduceAdd]
 repeat'(first|refine zQ ?_|refine zF h2 ?_|(refine zG ?_ ?_<;>first|intro h|simp)|refine zE ?_|fail)
 all_goals first
  |(symm;exact decide_eq_false (by show ¬(400<e1∧e1≤3000);omega))
  |(refine decide_eq_decide.2 ?_;show _↔(400<e1∧e1≤3000);omega)
  |trace_state
def qga(L:List Share)(k:Nat):Int:=match L[k]? with
 |some x=>x.vol
 |none=>0
def qfz(L:List Share)(k:Nat):Option ByteArray:=L[k]?.map (·.soil)
theorem qgb{L:List Share}{k:Nat}(h:k<L.length):qga L k=L[k].vol:=by simp only[qga,List.getElem?_eq_getElem h]
theorem qwk{L:List Share}{j k:Nat}{v:Int}(h:k<L.length):qga (qrF L j v) k=qga L k+if j=k then v else 0:=by
 by_cases hj:j<L.length
 ·rw[qnc hj,qgb (by simpa using h),qgb h]
  by_cases e:j=k
  ·subst e;simp
  ·rw[List.getElem_set_ne e,if_neg e];simp
 ·have e:qrF L j v=L:=by unfold qrF;rw[List.getElem?_eq_none (by omega)]
  rw[e,if_neg (by omega)];simp
theorem qtq{L:List Share}{j k:Nat}{v:Int}:qfz (qrF L j v) k=qfz L k:=by
 unfold qrF
 split
 ·rename_i x hx
  unfold qfz
  by_cases e:j=k
  ·subst e
   have hj:j<L.length:=by
    rcases Nat.lt_or_ge j L.length with h|h
    ·exact h
    ·rw[List.getElem?_eq_none h]at hx;cases hx
   rw[List.getElem?_set_self hj,hx];rfl
  ·rw[List.getElem?_set_ne e]
 ·rfl
def qk6(g:Ground)(q:Part):Nat:=(qa9 g.soils q.soil).toNat
theorem qrZ{g:Ground}{side:Int}(hs:0<side){L:List Share}{C:List Part}(hC:∀q∈C,q.bottom<q.top){k:Nat}(hk:k<L.length):∀j,j≤C.length→qga L k≤qga (qh0 g side L C j) k∧(qga L k<qga (qh0 g side L C j) k↔∃q∈C.take j,qk6 g q=k)
 |0,_=>by simp[qh0]
 |j+1,h=>by
  obtain⟨ih1,ih2⟩:=qrZ (g:=g) hs hC hk j (by omega)
  have hj:j<C.length:=by omega
  rw[qh1 g side L hj,qwk (by rw[qh2];exact hk)]
  have hq:=hC _ (List.getElem_mem hj)
  have hv:0<(C[j].top-C[j].bottom)*side*side:=Int.mul_pos (Int.mul_pos (by omega) hs) hs
  by_cases e:(qa9 g.soils C[j].soil).toNat=k
  ·rw[if_pos e]
   refine⟨by omega,⟨fun _=>⟨C[j],?_,e⟩,fun _=>by omega⟩⟩
   rw[List.take_succ_eq_append_getElem hj]
   exact List.mem_append_right _ (List.mem_singleton.2 rfl)
  ·rw[if_neg e,Int.add_zero]
   refine⟨ih1,ih2.trans ⟨?_,?_⟩⟩
   ·rintro⟨q,hq,h⟩
    exact⟨q,by rw[List.take_succ_eq_append_getElem hj];exact List.mem_append_left _ hq,h⟩
   ·rintro⟨q,hq,h⟩
    rw[List.take_succ_eq_append_getElem hj]at hq
    rcases List.mem_append.1 hq with hq|hq
    ·exact⟨q,hq,h⟩
    ·simp only[List.mem_singleton]at hq
     subst hq;exact absurd h e
theorem qo5{g:Ground}{side:Int}{L:List Share}{C:List Part}{k:Nat}:∀j,qfz (qh0 g side L C j) k=qfz L k
 |0=>rfl
 |j+1=>by
  have ih:=qo5 (g:=g) (side:=side) (L:=L) (C:=C) (k:=k) j
  simp only[qh0]
  split
  ·rw[qtq,ih]
  ·exact ih
theorem qhm{g:Ground}{m a:Grid}{k:Nat}:∀n,qfz (qaT g m a n) k=g.soils[k]?.map (·.name)
 |0=>by
  unfold qfz qaT
  rw[List.getElem?_map]
  cases g.soils[k]?<;>rfl
 |n+1=>by
  have ih:=qhm (g:=g) (m:=m) (a:=a) (k:=k) n
  simp only[qaT]
  split
  ·rw[qo5,ih]
  ·exact ih
theorem qiN{g:Ground}(hg:OkG g){m a:Grid}(hs:0<m.side){k:Nat}(hk:k<g.soils.length):∀n,0≤qga (qaT g m a n) k∧(0<qga (qaT g m a n) k↔∃i<n,(lv m.levels i≠30000∧lv a.levels i≠30000)∧∃q∈qco g m a i,qk6 g q=k)
 |0=>by
  have e:qga (qaT g m a 0) k=0:=by
   rw[qgb (by simpa[qaT]using hk)]
   simp[qaT]
  rw[e];simp
 |n+1=>by
  obtain⟨ih1,ih2⟩:=qiN hg (a:=a) hs hk n
  simp only[qaT]
  split
  ·rename_i hkn
   have hC:∀q∈qco g m a n,q.bottom<q.top:=fun q hq=>(qfo hg hq).1
   obtain⟨h1,h2⟩:=qrZ (g:=g) hs (L:=qaT g m a n) hC (k:=k) (by rw[qdw];exact hk) (qco g m a n).length (Nat.le_refl _)
   rw[List.take_length]at h2
   refine⟨by omega,⟨fun h=>?_,?_⟩⟩
   ·by_cases h0:0<qga (qaT g m a n) k
    ·obtain⟨i,hi,hh⟩:=ih2.1 h0
     exact⟨i,by omega,hh⟩
    ·exact⟨n,by omega,hkn,h2.1 (by omega)⟩
   ·rintro⟨i,hi,hh,hq⟩
    rcases Nat.lt_succ_iff_lt_or_eq.1 hi with h'|rfl
    ·have:=ih2.2 ⟨i,h',hh,hq⟩;omega
    ·have:=h2.2 hq;omega
  ·rename_i hkn
   refine⟨ih1,ih2.trans ⟨fun⟨i,hi,hh⟩=>⟨i,by omega,hh⟩,?_⟩⟩
   rintro⟨i,hi,hh,hq⟩
   rcases Nat.lt_succ_iff_lt_or_eq.1 hi with h'|rfl
   ·exact⟨i,h',hh,hq⟩
   ·exact absurd hh hkn
theorem qmi{g:Ground}{q:Part}(h:0≤qa9 g.soils q.soil):g.soils[qk6 g q]?.map (·.name)=some q.soil:=by
 unfold qk6
 unfold qa9 qci at h ⊢
 cases hf:g.soils.findIdx? (fun x=>decide (x.name=q.soil))with
 |none=>rw[hf]at h;simp at h
 |some i=>
  obtain⟨hi,h1,-⟩:=List.findIdx?_eq_some_iff_getElem.1 hf
  simp only[Int.toNat_natCast,List.getElem?_eq_getElem hi,Option.map_some]
  rw[of_decide_eq_true h1]
theorem qo6{s:Site}(hs:OkSite s){b:Grid}(hb:OkBed s b){c:Cut}(hc:OkCut s c)(n:ByteArray):(∃x∈qbb s b c,x.vol≠0∧x.soil=n)↔∃i∈qcd s b c,∃q∈qaD s.ground (qap b i) (lv b.levels i) c.level,q.soil=n:=by
 have hg:=okG hs.gr
 have hside:0<b.side:=by have:=hb.ok.bds;omega
 have hlow:=qeM hs.bed hb hc
 obtain⟨ha,hlt,hpos,hle⟩:=qby hs.bed hc
 have hlen:=hb.len hs.bed
 have e:∀i,i∈qcd s b c→i<b.levels.length∧lv b.levels i≠30000∧lv (qeL s b c).levels i=c.level∧c.level<lv b.levels i:=fun i hi=>by
  obtain⟨h1,h2⟩:=List.mem_filter.1 hi
  have h2:=of_decide_eq_true h2
  have hil:i<b.levels.length:=by rw[hlen];exact hlt i h1
  refine⟨hil,h2.1,?_,h2.2⟩
  show lv (qgt b.levels (qaH s c) c.level) i=c.level
  rw[qdL hil,if_pos ⟨h1,h2.1⟩]
  omega
 have hlv:=hc.lvl
 constructor
 ·rintro⟨x,hx,hv,rfl⟩
  obtain⟨k,hk,rfl⟩:=List.mem_iff_getElem.1 hx
  have hk':k<s.ground.soils.length:=by have:=hk;rw[qbb,qdw]at this;exact this
  obtain⟨v0,v1⟩:=qiN hg (m:=b) (a:=qeL s b c) hside hk' b.levels.length
  have hvk:qga (qbb s b c) k=(qbb s b c)[k].vol:=qgb hk
  obtain⟨i,hi,hkn,q,hq,hqk⟩:=v1.1 (by show 0<qga (qbb s b c) k;have:0≤qga (qbb s b c) k:=v0;omega)
  have hqp:=qfo hg hq
  have hqn:(qbb s b c)[k].soil=q.soil:=by
   have h1:=qhm (g:=s.ground) (m:=b) (a:=qeL s b c) (k:=k) b.levels.length
   rw[←hqk,qmi hqp.2.2.2.1,hqk]at h1
   have h2:qfz (qbb s b c) k=some (qbb s b c)[k].soil:=by unfold qfz;rw[List.getElem?_eq_getElem hk];rfl
   have h3:qfz (qbb s b c) k=some q.soil:=h1
   rw[h2]at h3;injection h3
  have hin:i∈qcd s b c:=by
   by_cases hin:i∈qaH s c∧c.level<lv b.levels i
   ·exact List.mem_filter.2 ⟨hin.1,decide_eq_true ⟨hkn.1,hin.2⟩⟩
   ·exfalso
    have:lv (qeL s b c).levels i=lv b.levels i:=by
     show lv (qgt b.levels (qaH s c) c.level) i=_
     rw[qdL hi]
     split
     ·rename_i h
      have h3:¬c.level<lv b.levels i:=fun h'=>hin ⟨h.1,h'⟩
      omega
     ·rfl
    unfold qco at hq
    rw[this,qvV hg (Int.le_refl _)]at hq
    simp at hq
  refine⟨i,hin,q,?_,hqn.symm⟩
  unfold qco at hq
  rw[(e i hin).2.2.1]at hq
  exact hq
 ·rintro⟨i,hin,q,hq,rfl⟩
  obtain⟨hil,hk1,hk2,hk3⟩:=e i hin
  have hq2:q∈qco s.ground b (qeL s b c) i:=by unfold qco;rw[hk2];exact hq
  have hqp:=qfo hg hq
  have hk':qk6 s.ground q<s.ground.soils.length:=hqp.2.2.2.2
  obtain⟨v0,v1⟩:=qiN hg (m:=b) (a:=qeL s b c) hside hk' b.levels.length
  have hp:=v1.2 ⟨i,hil,⟨hk1,by rw[hk2];omega⟩,q,hq2,rfl⟩
  have hk:qk6 s.ground q<(qbb s b c).length:=by rw[qbb,qdw];exact hk'
  refine⟨(qbb s b c)[qk6 s.ground q],List.getElem_mem hk,?_,?_⟩
  ·have:qga (qbb s b c) (qk6 s.ground q)=_:=qgb hk
   have hp':0<qga (qbb s b c) (qk6 s.ground q):=hp
   omega
  ·have h1:=qhm (g:=s.ground) (m:=b) (a:=qeL s b c) (k:=qk6 s.ground q) b.levels.length
   rw[qmi hqp.2.2.2.1]at h1
   have h3:qfz (qbb s b c) (qk6 s.ground q)=some q.soil:=h1
   unfold qfz at h3
   rw[List.getElem?_eq_getElem hk]at h3
   simpa using h3
theorem qyt{s:Site}(hs:OkSite s){b:Grid}(hb:OkBed s b){c:Cut}(hc:OkCut s c):qto (dredOf s c.dredger) (qbb s b c)=true↔∃i∈qcd s b c,qni s b c i=true:=by
 have ht:=fun n=>qo6 hs hb hc n
 constructor
 ·intro h
  obtain⟨x,hx,h1⟩:=List.any_eq_true.1 h
  rw[Bool.and_eq_true,decide_eq_true_eq,decide_eq_true_eq]at h1
  obtain⟨i,hi,q,hq,e⟩:=(ht x.soil).1 ⟨x,hx,h1.1,rfl⟩
  refine⟨i,hi,?_⟩
  unfold qni qd5 qiM
  rw[Bool.not_not]
  exact List.any_eq_true.2 ⟨q,hq,decide_eq_true (by rw[e];exact h1.2)⟩
 ·rintro⟨i,hi,h⟩
  unfold qni qd5 qiM at h
  rw[Bool.not_not]at h
  obtain⟨q,hq,h1⟩:=List.any_eq_true.1 h
  obtain⟨x,hx,hv,e⟩:=(ht q.soil).2 ⟨i,hi,q,hq,rfl⟩
  refine List.any_eq_true.2 ⟨x,hx,?_⟩
  rw[Bool.and_eq_true,decide_eq_true_eq,decide_eq_true_eq,e]
  exact⟨hv,of_decide_eq_true h1⟩
theorem qwl:∀(l:List Int),(∀x∈l,0≤x)→(∃x∈l,1≤x)→1≤l.sum
 |[],_,⟨x,h,_⟩=>by cases h
 |a::l,h0,⟨x,h,h1⟩=>by
  have ha:=h0 a (by simp)
  have hs:0≤l.sum:=by
   clear h h1
   induction l with
   |nil=>simp
   |cons b l ih=>
    have hb:=h0 b (by simp)
    have:=ih fun x hx=>h0 x (by rcases List.mem_cons.1 hx with e|e<;>simp[e])
    simp only[List.sum_cons];omega
  simp only[List.sum_cons]
  rcases List.mem_cons.1 h with rfl|h
  ·omega
  ·have:=qwl l (fun x hx=>h0 x (by simp[hx])) ⟨x,h,h1⟩
   omega
theorem qqn{s:Site}(hs:OkSite s){b:Grid}(hb:OkBed s b)(h100:b.levels.length≤100){c:Cut}(hc:OkCut s c)(hl:0<(qcd s b c).length)(hm:qto (dredOf s c.dredger) (qbb s b c)=false):1≤(qbR s b c).1:=by
 have hv:=qkZ hs.gr hs.bed hb h100 hc
 have hD:=hs.dredOf hc
 have e:(qbR s b c).1=qhq (dredOf s c.dredger) (qbb s b c):=by unfold qbR qjb;rw[if_neg (by rw[hm];simp)]
 rw[e]
 have hin:=List.getElem_mem hl
 obtain⟨h1,h2⟩:=List.mem_filter.1 hin
 have h2:=of_decide_eq_true h2
 have hcol:=(qxW (okG hs.gr) (p:=qap b (qcd s b c)[0]) (f:=lv b.levels (qcd s b c)[0]) (t:=c.level) (by have:=h2.2;omega)).2
 have hne:∃q,q∈qaD s.ground (qap b (qcd s b c)[0]) (lv b.levels (qcd s b c)[0]) c.level:=by
  cases hcc:qaD s.ground (qap b (qcd s b c)[0]) (lv b.levels (qcd s b c)[0]) c.level with
  |nil=>
   rw[hcc]at hcol
   have:lv b.levels (qcd s b c)[0]=c.level:=hcol
   have:=h2.2
   omega
  |cons q r=>exact⟨q,by simp⟩
 obtain⟨q,hq⟩:=hne
 obtain⟨x,hx,hx0,hxs⟩:=(qo6 hs hb hc q.soil).2 ⟨_,hin,q,hq,rfl⟩
 have hno:∀y∈qbb s b c,y.vol≠0→0≤qgD (dredOf s c.dredger) y.soil:=fun y hy h0=>by
  rcases Int.lt_or_le (qgD (dredOf s c.dredger) y.soil) 0 with h|h
  ·have:qto (dredOf s c.dredger) (qbb s b c)=true:=List.any_eq_true.2 ⟨y,hy,by rw[Bool.and_eq_true,decide_eq_true_eq,decide_eq_true_eq];exact⟨h0,h⟩⟩
   rw[hm]at this;cases this
  ·exact h
 have hterm:∀y∈qbb s b c,y.vol≠0→1≤upI (60*y.vol) (1000000*(qcy (dredOf s c.dredger) y.soil).rate):=fun y hy h0=>by
  obtain⟨hk,e⟩:=qe1 (hno y hy h0)
  have ho:=hD.o _ hk
  rw[←e]at ho
  obtain⟨i,hi,rfl⟩:=List.mem_iff_getElem.1 hy
  have hvi:=hv i hi
  unfold upI
  have:1*(1000000*(qcy (dredOf s c.dredger) (qbb s b c)[i].soil).rate)≤60*(qbb s b c)[i].vol+1000000*(qcy (dredOf s c.dredger) (qbb s b c)[i].soil).rate-1:=by omega
  exact Int.le_ediv_of_mul_le (by omega) this
 refine qwl _ ?_ ⟨_,List.mem_map.2 ⟨x,hx,rfl⟩,?_⟩
 ·intro y hy
  obtain⟨z,hz,rfl⟩:=List.mem_map.1 hy
  by_cases h0:z.vol=0
  ·simp[h0]
  ·rw[if_neg h0];have:=hterm z hz h0;omega
 ·rw[if_neg hx0];exact hterm x hx hx0
theorem qwm:qxI Tryz.prog 182:=by
 intro va vb w
 refine callsD_of_wpS Tryz.func182 rfl fun c₀ cs hu=>?_
 apply wpS_seq
 apply wpS_region
 simp[wpOpsS,go_sem,recoverD,hu,Tryz.ntmps182,Exit.thenS]
 refine wpS_of_wp (wp_block (wp_seq (wp_region ?_)))
 simp[wpOps,go_sem,Exit.then,Array.replicate]
 left
 refine wp_cond (t:=true) (by simp[Act.eval]) ?_
 simp only[if_true]
 refine wp_region ?_
 simp[wpOps,go_sem,Exit.inBlock,bodyPostS,results,Tryz.results182]
 left
 cases c₀
 simp_all
theorem qtr{v:Value}{w:World}:(Instr.typeAssert (.iface 248 v) 20 248 true).run Tryz.prog w=.ok (.tuple #[v,.bool true]) w:=by
 simp only[Instr.typeAssert,Sem.run_bind,run_underlying (show Tryz.prog.underlying 248=some _ from Tryz.underlying248),Result.andThen_ok,if_true,Sem.run_pure]
theorem qnl(r c:Int):qCG Tryz.prog 182 3 1 (.iface 248 (.agg [.int .i64 r,.int .i64 c])) 53 4 [.int .i64 0,.int .i64 c,.int .i64 r] true:=by
 intro base ow w va vb v hv hbase hm how ha hb
 obtain rfl:v=.iface 248 (.agg #[.int .i64 r,.int .i64 c]):=by
  cases hv with
  |iface _ v _ h=>
   obtain⟨vs,rfl,hl,hc⟩:=(Rep.pure (ow:=fun _=>.pending) _ _ h).agg_inv
   match vs,hl with
   |⟨[x,y]⟩,_=>
    have h0:=hc 0 x _ rfl rfl
    have h1:=hc 1 y _ rfl rfl
    cases h0 with|pure _ _ h0=>cases h1 with|pure _ _ h1=>cases h0;cases h1;rfl
 refine callsD_of_wpS Tryz.func182 rfl fun c₀ cs hu=>?_
 apply wpS_seq
 apply wpS_region
 simp[wpOpsS,go_sem,recoverD,hu,Tryz.ntmps182,Exit.thenS]
 refine wpS_of_wp (wp_block (wp_seq (wp_region ?_)))
 simp[wpOps,go_sem,Exit.then,Array.replicate]
 left
 refine wp_cond (t:=false) (by simp[Act.eval]) ?_
 simp only[Bool.false_eq_true,if_false]
 refine wp_seq (wp_region ?_)
 simp[wpOps,go_sem,Exit.then,Array.replicate,qtr]
 left;left;left
 refine wp_cond (t:=true) (by simp[Act.eval]) ?_
 simp only[if_true]
 let K:X→St→Prop:=fun x st=>x=.normal∧lkE st.env 0=.op 0 0 0∧lkE st.env 1=.op 1 0 0∧qhr Tryz.prog (lkH st.hp) 53 (.op 0 0 0)=some (.agg [.int .i64 0,.int .i64 c,.int .i64 r])∧qhr Tryz.prog (lkH st.hp) 4 (.op 1 0 0)=some (.bool true)
 obtain⟨pz,hpz⟩:∃pz:Nat→Prop,∀g,pz g↔g<w.heap.size∧¬(ow 0).on g∧¬(ow 1).on g:=⟨_,fun _=>Iff.rfl⟩
 have hzb:∀g,g<base→pz g:=fun g hg=>(hpz g).2 ⟨Nat.lt_of_lt_of_le hg hbase,fun h=>absurd (hm.ownO 0 g h).1 (by omega),fun h=>absurd (hm.ownO 1 g h).1 (by omega)⟩
 have hext:Ext w (fun _=>False) ow w pz ow:=⟨fun g hg=>hg.elim,fun _=>.inr (.inl rfl)⟩
 have hi:∀tm,tm= #[va,vb,undef,undef,undef,Value.iface 248 (.agg #[.int .i64 r,.int .i64 c]),undef,.bool false,.tuple #[.agg #[.int .i64 r,.int .i64 c],.bool true],.bool true,.agg #[.int .i64 r,.int .i64 c],undef,undef,undef,undef,undef]→
   qbT {w with heap:= #[]} ⟨fun _=>True,w,pz,ow,[]⟩ 2 ⟨[(0,.op 0 0 0),(1,.op 1 0 0),(10,.agg [.int .i64 r,.int .i64 c])],[(0,⟨3,false,[List.replicate 3 .undef]⟩),(1,⟨1,false,[List.replicate 1 .undef]⟩)],2,16⟩ ⟨tm,[]⟩ w:=by
  intro tm htm
  refine⟨pz,ow,⟨fun b blk hb2=>(hm.blk b blk hb2).mono hext fun _ _=>rfl,hm.none,hm.injO,fun b g h=>⟨Nat.zero_le _,fun hp=>?_⟩,fun g hg=>((hpz g).1 hg).1⟩,fun s=>?_,⟨rfl,rfl,rfl,Nat.zero_le _,fun k hk=>absurd hk (Nat.not_lt_zero k),.same rfl⟩,fun g hg=>.inl trivial,how,by rw[htm];rfl,rfl,fun g hg=>⟨hg,rfl⟩,fun b=>.inr rfl⟩
  ·obtain⟨-,n0,n1⟩:=(hpz g).1 hp
   rcases Nat.lt_or_ge b 2 with h2|h2
   ·match b,h2,h with
    |0,_,h=>exact n0 h
    |1,_,h=>exact n1 h
   ·rw[how b h2]at h;exact h
  ·simp only[lkE]
   split
   ·rename_i h;subst h;rw[htm];exact ha.mono hext
   ·split
    ·rename_i h;subst h;rw[htm];exact hb.mono hext
    ·split
     ·rename_i h;subst h;rw[htm]
      exact .pure _ _ (.agg _ _ rfl fun i v d h1 h2=>by
       match i,h1,h2 with
       |0,h1,h2=>simp at h1 h2;subst h1 h2;exact .int _ _
       |1,h1,h2=>simp at h1 h2;subst h1 h2;exact .int _ _
       |i+2,h1,h2=>simp at h1)
     ·exact .pure _ _ (.undef _)
 refine wp_mono (qqK (E:=E0) mix (fun _ _ _ _ he _=>he.elim) _ K _ _ w (.inr rfl) (hi _ rfl) ?_) ?_
 ·repeat'(first|refine zQ ?_|fail)
  exact⟨rfl,rfl,rfl,rfl,rfl⟩
 rintro e a2 w2 he
 cases e with
 |normal=>
  obtain⟨st,⟨-,e0,e1,l1,l2⟩,pu2,ow2,hm2,he2,hb2,hz2,hid2,hs2,hd2,hkp⟩:=he
  have back:∀n x v,lkH [(0,(⟨3,false,[List.replicate 3 .undef]⟩:Blk)),(1,⟨1,false,[List.replicate 1 .undef]⟩)] n=some x→Rep w (fun _=>False) ow v (.op n 0 0)→Rep w2 pu2 ow2 v (.op n 0 0):=fun n x v hx hv=>by
   obtain⟨g,o,z,h1,rfl,_⟩:=qu1 hm hx hv
   rcases hkp.2 n with h|h
   ·exact absurd (h.symm.trans h1) (by simp)
   ·exact .opa n 0 0 g o _ z (h.trans h1)
  have hbase2:Below base w w2:=⟨hb2.os,hb2.tape,hb2.output,?_,fun k hk=>(hkp.1 k (hzb k hk)).2,hb2.drawn⟩
  ·refine⟨hd2,.panicking [{v:=Value.iface 248 (.agg #[.int .i64 r,.int .i64 c]),recovered:=true}],rfl,.tuple #[],?_,⟨_,rfl⟩,rfl,hbase2,pu2,ow2,st.hp,⟨hm2.blk,hm2.none,hm2.injO,fun b g h=>⟨?_,(hm2.ownO b g h).2⟩,hm2.zone⟩,back 0 _ va rfl ha,back 1 _ vb rfl hb,l1,l2⟩
   ·simp[results,Tryz.results182]
   ·rcases Nat.lt_or_ge g base with h'|h'
    ·exact absurd (hkp.1 g (hzb g h')).1 (hm2.ownO b g h).2
    ·exact h'
  ·rcases Nat.lt_or_ge w2.heap.size w.heap.size with hlt|hge
   ·exfalso
    have hl2:∀n x,lkH [(0,(⟨3,false,[List.replicate 3 .undef]⟩:Blk)),(1,⟨1,false,[List.replicate 1 .undef]⟩)] n=some x→¬(ow n).on (w.heap.size-1):=fun n x hx hon=>by
     rcases hkp.2 n with h|h
     ·exact(by rw[show ow n=.pending from h]at hon;exact hon)
     ·have:=hm2.on_lt (b:=n) (g:=w.heap.size-1) (by rw[h];exact hon)
      omega
    have:=hkp.1 (w.heap.size-1) ((hpz _).2 ⟨by omega,hl2 0 _ rfl,hl2 1 _ rfl⟩)
    have h3:=hm2.zone _ this.1
    omega
   ·exact hge
 |panic ch=>obtain⟨d,st,⟨h,_⟩,_⟩:=he;cases h
 |ret=>obtain⟨st,⟨h,_⟩,_⟩:=he;cases h
 |exit id=>obtain⟨st,⟨h,_⟩,_⟩:=he;cases h
 |_=>exact he.elim
end Go.Pv.Soil

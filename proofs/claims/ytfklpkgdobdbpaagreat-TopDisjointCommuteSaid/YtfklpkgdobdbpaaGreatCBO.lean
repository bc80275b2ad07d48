import Derived.Test.YtfklpkgdobdbpaaGreatCBM
import Derived.Test.YtfklpkgdobdbpaaGreatCBN
/- Part of the proofs over YtfklpkgdobdbpaaGreat: N57, N35, N36, N37. -/
set_option linter.unusedVariables false
set_option linter.unusedSimpArgs false
set_option linter.unnecessarySimpa false
open Go Go.Proofs Go.Pv
set_option maxHeartbeats 8000000
set_option maxRecDepth 100000
set_option linter.unusedSimpArgs false
set_option linter.unusedVariables false
namespace Go.Pv.Soil
def qB0:Cut:=⟨"a".toUTF8, "c".toUTF8,0,0,2,1,-600,0⟩
def qzI:Cut:=⟨"b".toUTF8, "c".toUTF8,0,0,1,1,-700,0⟩
theorem qiP{p q:Nat→Bool}:∀{l:List Nat},(∀i∈l,p i=q i)→l.find? p=l.find? q
 |[],_=>rfl
 |a::l,h=>by
  have ih:=qiP (l:=l) fun i hi=>h i (by simp[hi])
  rw[List.find?_cons,List.find?_cons,h a (by simp),ih]
theorem qyy{p:Nat→Bool}:∀{l:List Nat} {i:Nat},l.find? p=some i→i∈l∧p i=true:=fun h=>⟨List.mem_of_find?_eq_some h,List.find?_some h⟩
theorem qfq{e:Nat→Int}{p:Nat→Bool}{r:Int}{l:List Nat}(hr:r≠0)(h:∀i∈l,e i=if p i=true then r else 0):qfC e l=qbI p r l:=by
 have hc:l.find? (fun i=>decide (e i≠0))=l.find? p:=qiP fun i hi=>by
  rw[h i hi]
  cases p i
  ·simp
  ·simpa using hr
 unfold qfC qbI
 rw[hc]
 cases hf:l.find? p with
 |none=>rfl
 |some i=>
  obtain⟨h1,h2⟩:=qyy hf
  simp only[Option.map_some]
  rw[h i h1,if_pos h2]
theorem qjc{p q:Nat→Bool}{r:Int}{l:List Nat}:qbI p r (l.filter q)=qbI (fun i=>q i&&p i) r l:=by
 unfold qbI;rw[List.find?_filter]
 congr 1
 exact qiP fun i _=>by cases q i<;>cases p i<;>rfl
theorem qh8(b:Grid)(l:List Nat):qfC (qtu b) l=qbI (qBi b) 12 l:=qfq (by decide) fun i _=>by
 unfold qtu qBi
 by_cases h:lv b.levels i=30000
 ·rw[if_pos h,if_pos (decide_eq_true h)]
 ·rw[if_neg h,if_neg (by simpa using h)]
theorem qjM(s:Site)(l:List Nat):qfC (qyw s) l=qbI (qf7 s) 13 l:=qfq (by decide) fun i _=>rfl
theorem qnm{s:Site}(hs:OkSite s)(b:Grid){c:Cut}(hc:OkCut s c)(hk:∀i∈qaH s c,lv b.levels i≠30000):qfC (qwt s b c) (qaH s c)=qbI (qqf b c (dredOf s c.dredger)) 19 (qcd s b c):=by
 unfold qcd qnD
 rw[qjc]
 refine qfq (by decide) fun i hi=>?_
 have hbi:=(hs.dredOf hc).n.2.2.1
 have hki:=hk i hi
 unfold qwt qtt qqf
 by_cases h:(dredOf s c.dredger).bite<lv b.levels i-min (lv b.levels i) c.level
 ·rw[if_pos h,if_pos]
  rw[Bool.and_eq_true,decide_eq_true_eq,decide_eq_true_eq]
  exact⟨⟨hki,by omega⟩,by omega⟩
 ·rw[if_neg h,if_neg]
  rw[Bool.and_eq_true,decide_eq_true_eq,decide_eq_true_eq]
  rintro⟨⟨-,h1⟩,h2⟩
  omega
theorem qr1{s:Site}(hs:OkSite s)(b:Grid){c:Cut}(hc:OkCut s c)(hk:∀i∈qaH s c,lv b.levels i≠30000):qfC (qwu s b c) (qaH s c)=qbI (qni s b c) 6 (qcd s b c):=by
 unfold qcd qnD
 rw[qjc]
 refine qfq (by decide) fun i hi=>?_
 have hki:=hk i hi
 unfold qwu qtt qni
 by_cases h:0<lv b.levels i-min (lv b.levels i) c.level∧qd5 s b c i=false
 ·rw[if_pos h,if_pos]
  rw[Bool.and_eq_true,decide_eq_true_eq,h.2]
  exact⟨⟨hki,by have:=h.1;omega⟩,rfl⟩
 ·rw[if_neg h,if_neg]
  rw[Bool.and_eq_true,decide_eq_true_eq]
  rintro⟨⟨-,h1⟩,h2⟩
  exact h ⟨by omega,by simpa using h2⟩
theorem qDq{s:Site}{b:Grid}(h:qbX s.bed b=true)(q:Quay)(i:Nat):qil q b i=qil q s.bed i:=by
 have:qjH b i=qjH s.bed i:=by simp only[qjH,qk5 h]
 simp only[qil,this]
theorem qr2(s:Site)(i:Nat)(v:Int):∀j,j≤s.quays.length→((qtn s i j).2=false→∀k (hk:k<s.quays.length),k<j→qil s.quays[k] s.bed i=30000)∧
  (((qtn s i j).2&&decide (v<(qtn s i j).1))=true↔∃k,∃hk:k<s.quays.length,k<j∧qil s.quays[k] s.bed i≠30000∧v<qil s.quays[k] s.bed i)
 |0,_=>by
  refine⟨fun _ k _ h=>by omega,?_⟩
  constructor
  ·intro h;simp[qtn]at h
  ·rintro⟨k,_,h,_⟩;omega
 |j+1,h=>by
  obtain⟨ih1,ih2⟩:=qr2 s i v j (by omega)
  have hj:j<s.quays.length:=by omega
  have hst:=qoV (s:=s) (i:=i) hj
  have ext:(∃k,∃hk:k<s.quays.length,k<j+1∧qil s.quays[k] s.bed i≠30000∧v<qil s.quays[k] s.bed i)↔(∃k,∃hk:k<s.quays.length,k<j∧qil s.quays[k] s.bed i≠30000∧v<qil s.quays[k] s.bed i)∨(qil s.quays[j] s.bed i≠30000∧v<qil s.quays[j] s.bed i):=by
   constructor
   ·rintro⟨k,hk,h1,h2⟩
    rcases Nat.lt_succ_iff_lt_or_eq.1 h1 with h'|rfl
    ·exact .inl ⟨k,hk,h',h2⟩
    ·exact .inr h2
   ·rintro(⟨k,hk,h1,h2⟩|h2)
    ·exact⟨k,hk,by omega,h2⟩
    ·exact⟨j,hj,by omega,h2⟩
  rw[ext,←ih2]
  generalize hw:qil s.quays[j] s.bed i=w at*
  have hall:(qtn s i (j+1)).2=false→(qtn s i j).2=false∧w=30000:=by
   intro h0
   rw[hst,qzA]at h0
   split at h0
   ·cases h0
   ·rename_i hh
    refine⟨h0,Classical.byContradiction fun hw=>hh ⟨hw,.inl h0⟩⟩
  refine⟨fun h0 k hk hkj=>?_,?_⟩
  ·rcases Nat.lt_succ_iff_lt_or_eq.1 hkj with h'|rfl
   ·exact ih1 (hall h0).1 k hk h'
   ·exact hw.trans (hall h0).2
  ·rw[hst]
   generalize qtn s i j=st at*
   obtain⟨s1,s2⟩:=st
   unfold qzA
   split
   ·rename_i hh
    simp only[Bool.true_and,decide_eq_true_eq,Bool.and_eq_true]
    constructor
    ·intro hv;exact .inr ⟨hh.1,hv⟩
    ·rintro(⟨h1,h2⟩|⟨_,hv⟩)
     ·rcases hh.2 with h3|h3
      ·simp only at h3;rw[h1]at h3;cases h3
      ·simp only at h3;omega
     ·exact hv
   ·rename_i hh
    simp only[Bool.and_eq_true,decide_eq_true_eq]
    constructor
    ·exact .inl
    ·rintro(h|⟨h1,h2⟩)
     ·exact h
     ·have h3:¬(s2=false∨s1<w):=fun h3=>hh ⟨h1,h3⟩
      exact⟨by simpa using fun h4=>h3 (.inl h4),by have:¬s1<w:=fun h4=>h3 (.inr h4);omega⟩
theorem qyz(s:Site)(c:Cut)(i:Nat):qo1 s c i=true↔∃k,∃hk:k<s.quays.length,qil s.quays[k] s.bed i≠30000∧c.level<qil s.quays[k] s.bed i:=by
 unfold qo1 qv6
 rw[(qr2 s i c.level s.quays.length (Nat.le_refl _)).2]
 exact⟨fun⟨k,hk,_,h⟩=>⟨k,hk,h⟩,fun⟨k,hk,h⟩=>⟨k,hk,hk,h⟩⟩
def bk(s:Site)(b:Grid)(c:Cut):Nat→Nat→Int
 |0=>qtu b
 |1=>qyw s
 |2=>qwt s b c
 |3=>qwu s b c
 |_=>fun _=>0
def qo9(s:Site)(c:Cut):Nat:=(qaH s c).getD 0 0
section
variable {s:Site}(hs:OkSite s){b:Grid}{c:Cut}(hc:OkCut s c)(hform:qnh (dredOf s c.dredger) c=true)
include hs hc hform
theorem qk7(h:∀j (hj:j<(qaH s c).length),bk s b c 0 (qaH s c)[j]=0):∀i∈qaH s c,lv b.levels i≠30000:=fun i hi h0=>by
 have _:=hs
 have _:=hc
 have _:=hform
 obtain⟨j,hj,rfl⟩:=List.mem_iff_getElem.1 hi
 have:=h j hj
 simp only[bk,qtu,if_pos h0]at this
 cases this
theorem qyA(hall:∀r,r<4→∀j (hj:j<(qaH s c).length),bk s b c r (qaH s c)[j]=0):qiO s b c=(if(qbR s b c).1≤3000∧c.start+(qbR s b c).1≤1000001 then none else some (8,(qo9 s c:Int))).or ((qfC (qcG s c (qqo s b c)) (qcd s b c)).or (qhl s c (qcd s b c) (qeL s b c))):=by
 have hk:=qk7 hs hc hform (hall 0 (by omega))
 have e2:=qcJ (hall 0 (by omega))
 have e3:=qcJ (hall 1 (by omega))
 have e4:=qcJ (hall 2 (by omega))
 have e5:=qcJ (hall 3 (by omega))
 simp only[bk]at e2 e3 e4 e5
 rw[qh8]at e2
 rw[qjM]at e3
 rw[qnm hs b hc hk]at e4
 rw[qr1 hs b hc hk]at e5
 unfold qiO qeD
 rw[if_pos hform,e2,e3,e4,e5]
 simp only[Option.none_or]
 rw[show c.start+(qbR s b c).1-c.start=(qbR s b c).1 by omega]
 rfl
theorem qyB{r:Nat}(hr:r<4)(hprev:∀r',r'<r→∀j (hj:j<(qaH s c).length),bk s b c r' (qaH s c)[j]=0){j:Nat}(hj:j<(qaH s c).length)(hC:∀j' (hj':j'<(qaH s c).length),j'<j→bk s b c r (qaH s c)[j']=0)(h:¬bk s b c r (qaH s c)[j]=0):
  qiO s b c=some (bk s b c r (qaH s c)[j],((qaH s c)[j]:Int)):=by
 have hat:=qjL hj hC rfl h
 unfold qiO qeD
 rw[if_pos hform]
 match r,hr with
 |0,_=>
  simp only[bk]at hat ⊢
  rw[qh8]at hat
  rw[hat];rfl
 |1,_=>
  have e2:=qcJ (hprev 0 (by omega))
  simp only[bk]at hat e2 ⊢
  rw[qh8]at e2
  rw[qjM]at hat
  rw[e2,hat];rfl
 |2,_=>
  have hk:=qk7 hs hc hform (hprev 0 (by omega))
  have e2:=qcJ (hprev 0 (by omega))
  have e3:=qcJ (hprev 1 (by omega))
  simp only[bk]at hat e2 e3 ⊢
  rw[qh8]at e2
  rw[qjM]at e3
  rw[qnm hs b hc hk]at hat
  rw[e2,e3,hat];rfl
 |3,_=>
  have hk:=qk7 hs hc hform (hprev 0 (by omega))
  have e2:=qcJ (hprev 0 (by omega))
  have e3:=qcJ (hprev 1 (by omega))
  have e4:=qcJ (hprev 2 (by omega))
  simp only[bk]at hat e2 e3 e4 ⊢
  rw[qh8]at e2
  rw[qjM]at e3
  rw[qnm hs b hc hk]at e4
  rw[qr1 hs b hc hk]at hat
  rw[e2,e3,e4,hat];rfl
end
theorem qyC{s:Site}{b:Grid}{c:Cut}(hform:qnh (dredOf s c.dredger) c=false):qiO s b c=some (3,(qo9 s c:Int)):=by
 unfold qiO qeD
 rw[if_neg (by rw[hform];simp)];rfl
theorem qnn{s:Site}{c:Cut}(h:0<(qaH s c).length):qo9 s c=(qaH s c)[0]:=by
 unfold qo9;rw[List.getD_eq_getElem?_getD,List.getElem?_eq_getElem h];rfl
theorem qwA(s:Site)(hs:OkSite s)(b:Grid)(hb:OkBed s b)(c:Cut)(hc:OkCut s c)(i:Nat)(hi:i<b.levels.length):∀r,r<4→Contract Tryz.prog 110 [.agg (encSite s),.agg (encGrid b),.agg (encCut c),.int .i64 i,.int .i64 ((r+2:Nat):Int)] (.ret (.int .i64 (bk s b c r i)))
 |0,_=>qww s hs b hb c hc i hi
 |1,_=>qwy s hs b hb c hc i hi
 |2,_=>qwx s hs b hb c hc i hi
 |3,_=>qwz s hs b hb c hc i hi
theorem qwB(s:Site)(hs:OkSite s)(b:Grid)(hb:OkBed s b)(k:Nat)(hk:k<s.quays.length)(i:Nat)(hi:i<b.levels.length):Contract Tryz.prog 63 [.agg (qcf s.quays[k]),.agg (encPt (qap b i))] (.ret (.int .i64 (qil s.quays[k] s.bed i))):=by
 rw[←qDq hb.al]
 exact qym s.quays[k] (hs.quay.2 k hk) b i (qzy hb.ok hi)
abbrev hpR(s:Site)(b:Grid)(c:Cut):List (Nat×Blk):=[(0,⟨12,true,[encSite s]⟩),(1,⟨6,true,[encGrid b]⟩),(2,⟨8,true,[encCut c]⟩),(3,⟨3,true,[[.int .i64 0,.int .i64 0,.int .i64 0]]⟩)]
theorem qwC(s:Site)(hz:Sized s)(hs:OkSite s)(b:Grid)(hb:OkBed s b)(h100:b.levels.length≤100)(c:Cut)(hc:OkCut s c):Contract Tryz.prog 31 [.agg (encSite s),.agg (encGrid b),.agg (encCut c)] (.ret (.tup [.agg (qts (qiO s b c)),.bool (qiO s b c).isSome])):=by
 obtain⟨ha,hlt,hpos,hle⟩:=qby hs.bed hc
 obtain⟨hll,hlo⟩:=qo7 hs hb hc
 have hlen:=hb.len hs.bed
 have hlow:=qeM hs.bed hb hc
 have hef:=qjI hs hb h100 hc
 have hst:=hc.st
 have hcl:=hc.lvl
 have hq5:=hs.quay.1
 have k1:=qhj s hs.bed c hc
 have k2:=qb4 s (by have:=hs.dreds;omega) c.dredger
 obtain⟨hk,ed⟩:=qcc hc.dr
 obtain⟨k,ek⟩:=Int.eq_ofNat_of_zero_le hc.dr
 have hkk:(qcT s c.dredger).toNat=k:=by omega
 rw[ek]at k2
 simp only[hkk]at hk ed
 have k3:=qDa (dredOf s c.dredger) c
 have k4:Contract Tryz.prog 48 [.agg (encSite s),.agg (encGrid b),.agg (encCut c)] (.ret (.tup [.int .i64 (qbR s b c).1,.int .i64 (qbR s b c).2.1,.int .i64 (qyn (qbR s b c))])):=qng s hs hz b hb h100 c hc
 have k5:=qws s hs.bed b hb c hc
 have k6:=qf5 s hs.bed b hb c hc
 have k7:=qu3 qo4 (c59 s.ground (okG hs.gr) hz.so (qeL s b c) hlow.ok)
 have hB:=fun i hi=>qwA s hs b hb c hc i hi
 rw[ed]at k3
 cases hform:qnh (dredOf s c.dredger) c
 ·rw[ed]at hform
  rw[hform]at k3
  rw[qyC (by rw[ed];exact hform),qnn hpos]
  refine zT mix Tryz.func31 Tryz.ntmps31 Tryz.results31 rfl rfl rfl ?_;simp only[qac,Nat.reduceAdd]
  repeat'(first|refine zQ ?_|refine zF k1 ?_|refine zF k2 ?_|refine zF k3 ?_|(refine zI ?_;intro hlt)|refine zE ?_|fail)
  all_goals first
   |rfl
   |trace_state
 ·have hft:∀j (hj:j<(qaH s c).length),(qaH s c)[j]<b.levels.length:=fun j hj=>by rw[hlen];exact hlt _ (List.getElem_mem hj)
  have hrule:=fun(r:Nat) (hr:r<4)=>qyB (s:=s) (b:=b) (c:=c) hs hc hform hr
  have hrest:=qyA (s:=s) (b:=b) (c:=c) hs hc hform
  rw[ed]at hform
  rw[hform]at k3
  refine zT mix Tryz.func31 Tryz.ntmps31 Tryz.results31 rfl rfl rfl ?_;simp only[qac,Nat.reduceAdd]
  repeat'(first|refine zQ ?_|refine zF k1 ?_|refine zF k2 ?_|refine zF k3 ?_|(refine zI ?_;intro hlt)|fail)
  refine qaf 4 (fun r=>⟨[(9,.int .i64 ((r+2:Nat):Int)),(8,.sl ((qaH s c).map qcX)),(3,.op 0 0 0),(4,.op 1 0 0),(5,.op 2 0 0),(6,.op 3 0 0)],hpR s b c,128,189⟩) (fun r=>∀r',r'<r→∀j (hj:j<(qaH s c).length),bk s b c r' (qaH s c)[j]=0) ?_ (by omega) ?_
  ·exact qaa (nx:=128) (k:=0) (ns:=[]) (ks:=[9,8,3,4,5,6]) [(0,0),(32,1),(64,2),(96,3)] rfl (by simp) (by kernel_rfl)
  intro r hr hR
  by_cases hr4:r<4
  ·repeat'(first|refine zQ ?_|(refine zC ?_ ?_<;>first|intro h|simp)|fail)
   all_goals try(exfalso;omega)
   refine qaf (qaH s c).length (fun j=>⟨[(10,.int .i64 j),(9,.int .i64 ((r+2:Nat):Int)),(8,.sl ((qaH s c).map qcX)),(3,.op 0 0 0),(4,.op 1 0 0),(5,.op 2 0 0),(6,.op 3 0 0)],hpR s b c,128,189⟩) (fun i=>∀j (hj:j<(qaH s c).length),j<i→bk s b c r (qaH s c)[j]=0) ?_ (by omega) ?_
   ·exact qaa (nx:=128) (k:=0) (ns:=[]) (ks:=[10,9,8,3,4,5,6]) [(0,0),(1,1),(2,2),(3,3)] rfl (by simp) (by kernel_rfl)
   intro i hi hC
   by_cases hL:i<(qaH s c).length
   ·have h1:=hB (qaH s c)[i] (hft i hL) r hr4
    have h2:=hrule r hr4 hR hL hC
    generalize hq:bk s b c r (qaH s c)[i]=q at*
    repeat'(first|refine zQ ?_|refine zF h1 ?_|(refine zI ?_;intro hlt)|(refine zC ?_ ?_<;>first|intro h|simp)|refine zE ?_|fail)
    all_goals first
     |exact absurd hL (by omega)
     |(rw[h2 (by assumption)];rfl)
     |(refine⟨hL,fun j hj hji=>?_,qaa (nx:=128) (k:=0) (ns:=[]) (ks:=[10,9,8,3,4,5,6]) [(0,0),(1,1),(2,2),(3,3)] rfl (by simp) (by kernel_rfl)⟩
       rcases Nat.lt_succ_iff_lt_or_eq.1 hji with h'|rfl
       ·exact hC j hj h'
       ·exact hq.trans (by assumption))
     |trace_state
   ·repeat'(first|refine zQ ?_|(refine zI ?_;intro hlt)|(refine zC ?_ ?_<;>first|intro h|simp)|fail)
    all_goals first
     |exact absurd hL (by omega)
     |(refine⟨hr4,fun r' hr' j hj=>?_,qaa (nx:=128) (k:=0) (ns:=[]) (ks:=[9,8,3,4,5,6]) [(0,0),(1,1),(2,2),(3,3)] rfl (by simp) (by kernel_rfl)⟩
       rcases Nat.lt_succ_iff_lt_or_eq.1 hr' with h'|rfl
       ·exact hR r' h' j hj
       ·exact hC j hj (by omega))
     |trace_state
  obtain rfl:r=4:=by omega
  rw[hrest fun r' hr'=>hR r' hr',qnn hpos]
  by_cases hlarge:(qbR s b c).1≤3000∧c.start+(qbR s b c).1≤1000001
  rotate_left
  ·rw[if_neg hlarge]
   repeat'(first|refine zQ ?_|refine zF k4 ?_|(refine zI ?_;intro hlt)|(refine zC ?_ ?_<;>first|intro h|simp)|(refine zG ?_ ?_<;>first|intro h|simp)|refine zE ?_|fail)
   all_goals first
    |rfl
    |(exfalso;omega)
    |trace_state
  rw[if_pos hlarge,Option.none_or]
  repeat'(first|refine zQ ?_|refine zF k4 ?_|refine zF k5 ?_|(refine zI ?_;intro hlt)|(refine zC ?_ ?_<;>first|intro h|simp)|(refine zG ?_ ?_<;>first|intro h|simp)|refine zE ?_|fail)
  all_goals try(exfalso;omega)
  have hm:(qbR s b c).1=(qqo s b c:Int):=by unfold qqo;omega
  unfold qhl
  have hlo1:∀j (hj:j<(qcd s b c).length),(qcd s b c)[j]<b.levels.length:=fun j hj=>(hlo j hj).1
  clear hlo hrule hrest hB hft
  refine qaf (qcd s b c).length (fun i=>⟨[(16,.int .i64 i),(15,.sl ((qcd s b c).map qcX)),(12,.int .i64 (qbR s b c).1),(3,.op 0 0 0),(4,.op 1 0 0),(5,.op 2 0 0),(6,.op 3 0 0)],hpR s b c,128,189⟩) (fun i=>∀j (hj:j<(qcd s b c).length),j<i→qcG s c (qqo s b c) (qcd s b c)[j]=0) ?_ (by omega) ?_
  ·exact qaa (nx:=128) (k:=0) (ns:=[]) (ks:=[16,15,12,3,4,5,6]) [(0,0),(1,1),(2,2),(3,3)] rfl (by simp) (by kernel_rfl)
  intro i hi hC
  by_cases hL:i<(qcd s b c).length
  ·have h1:=qBw s hs c hc (qcd s b c)[i] (by rw[←hlen];exact hlo1 i hL) (qqo s b c) (by omega) (by omega)
   rw[←hm]at h1
   have h2:∀q,q≠0→qcG s c (qqo s b c) (qcd s b c)[i]=q→qfC (qcG s c (qqo s b c)) (qcd s b c)=some (q,((qcd s b c)[i]:Int)):=fun q hq h=>qjL hL hC h hq
   generalize hq:qcG s c (qqo s b c) (qcd s b c)[i]=q at*
   repeat'(first|refine zQ ?_|refine zF h1 ?_|(refine zI ?_;intro hlt)|(refine zC ?_ ?_<;>first|intro h|simp)|refine zE ?_|fail)
   all_goals first
    |exact absurd hL (by omega)
    |(rw[h2 q (by assumption) rfl];rfl)
    |exact⟨hL,qwi hC fun _=>hq.trans (by assumption),qaa (nx:=128) (k:=0) (ns:=[]) (ks:=[16,15,12,3,4,5,6]) [(0,0),(1,1),(2,2),(3,3)] rfl (by simp) (by kernel_rfl)⟩
    |trace_state
  rw[qcJ (fun j hj=>hC j hj (by omega)),Option.none_or]
  repeat'(first|refine zQ ?_|(refine zI ?_;intro hlt)|(refine zC ?_ ?_<;>first|intro h|simp)|fail)
  all_goals try exact absurd hL (by omega)
  refine qaf (qcd s b c).length (fun i=>⟨[(18,.int .i64 i),(15,.sl ((qcd s b c).map qcX)),(3,.op 0 0 0),(4,.op 1 0 0),(5,.op 2 0 0),(6,.op 3 0 0)],hpR s b c,128,189⟩) (fun i=>∀j (hj:j<(qcd s b c).length),j<i→qo1 s c (qcd s b c)[j]=false) ?_ (by omega) ?_
  ·exact qaa (nx:=128) (k:=0) (ns:=[]) (ks:=[18,15,3,4,5,6]) [(0,0),(1,1),(2,2),(3,3)] rfl (by simp) (by kernel_rfl)
  intro i2 hi2 hC2
  by_cases hL2:i2<(qcd s b c).length
  ·have hqi:=qyz s c (qcd s b c)[i2]
   have h2:qo1 s c (qcd s b c)[i2]=true→qbI (qo1 s c) 15 (qcd s b c)=some (15,((qcd s b c)[i2]:Int)):=fun h=>qgx hL2 hC2 h
   repeat'(first|refine zQ ?_|(refine zC ?_ ?_<;>first|intro h|simp)|fail)
   all_goals try exact absurd hL2 (by omega)
   refine qaf s.quays.length (fun j=>⟨[(19,.int .i64 j),(18,.int .i64 i2),(15,.sl ((qcd s b c).map qcX)),(3,.op 0 0 0),(4,.op 1 0 0),(5,.op 2 0 0),(6,.op 3 0 0)],hpR s b c,128,189⟩) (fun j=>∀m (hm:m<s.quays.length),m<j→¬(qil s.quays[m] s.bed (qcd s b c)[i2]≠30000∧c.level<qil s.quays[m] s.bed (qcd s b c)[i2])) ?_ (by omega) ?_
   ·exact qaa (nx:=128) (k:=0) (ns:=[]) (ks:=[19,18,15,3,4,5,6]) [(0,0),(1,1),(2,2),(3,3)] rfl (by simp) (by kernel_rfl)
   intro j hj hD
   by_cases hM:j<s.quays.length
   ·have h3:=qBX b hb.ok (qcd s b c)[i2] (hlo1 i2 hL2)
    have h4:=qwB s hs b hb j hM (qcd s b c)[i2] (hlo1 i2 hL2)
    generalize hw:qil s.quays[j] s.bed (qcd s b c)[i2]=w at*
    repeat'(first|refine zQ ?_|refine zF h3 ?_|refine zF h4 ?_|(refine zI ?_;intro hlt)|(refine zC ?_ ?_<;>first|intro h|simp)|(refine zG ?_ ?_<;>first|intro h|simp)|refine zE ?_|fail)
    all_goals first
     |exact absurd hM (by omega)
     |(rw[h2 (hqi.2 ⟨j,hM,by rw[hw];assumption,by rw[hw];assumption⟩)];rfl)
     |(refine⟨hM,fun m hm hmj=>?_,qaa (nx:=128) (k:=0) (ns:=[]) (ks:=[19,18,15,3,4,5,6]) [(0,0),(1,1),(2,2),(3,3)] rfl (by simp) (by kernel_rfl)⟩
       rcases Nat.lt_succ_iff_lt_or_eq.1 hmj with h'|rfl
       ·exact hD m hm h'
       ·rw[hw];omega)
     |trace_state
   ·repeat'(first|refine zQ ?_|(refine zI ?_;intro hlt)|(refine zC ?_ ?_<;>first|intro h|simp)|fail)
    all_goals first
     |exact absurd hM (by omega)
     |(refine⟨hL2,qk2 hL2 hC2 (Bool.eq_false_iff.2 fun h=>?_),qaa (nx:=128) (k:=0) (ns:=[]) (ks:=[18,15,3,4,5,6]) [(0,0),(1,1),(2,2),(3,3)] rfl (by simp) (by kernel_rfl)⟩
       obtain⟨m,hm,h3⟩:=hqi.1 h
       exact hD m hm (by omega) h3)
     |trace_state
  rw[qgy (fun j hj=>hC2 j hj (by omega)),Option.none_or]
  have hsl:=qgv s.ground (qeL s b c) (qeL s b c).levels.length
  have hsl2:=Nat.mul_le_mul hlow.ok.small hlow.ok.small
  generalize qcW s.ground (qeL s b c) (qeL s b c).levels.length=st at*
  repeat'(first|refine zQ ?_|refine zF k6 ?_|refine zF k7 ?_|(refine zC ?_ ?_<;>first|intro h|simp)|fail)
  all_goals try exact absurd hL2 (by omega)
  refine qaf st.length (fun i=>⟨[(22,.int .i64 i),(21,.sl (st.map qbH)),(15,.sl ((qcd s b c).map qcX)),(3,.op 0 0 0),(4,.op 1 0 0),(5,.op 2 0 0),(6,.op 3 0 0)],hpR s b c,128,189⟩) (fun i=>∀j (hj:j<st.length),j<i→qw8 (qcd s b c) st[j]=false) ?_ (by omega) ?_
  ·exact qaa (nx:=128) (k:=0) (ns:=[]) (ks:=[22,21,15,3,4,5,6]) [(0,0),(1,1),(2,2),(3,3)] rfl (by simp) (by kernel_rfl)
  intro i3 hi3 hC3
  by_cases hL3:i3<st.length
  ·have h3:=qwq (qcd s b c) (by omega) st[i3].high
   have h4:=qwq (qcd s b c) (by omega) st[i3].low
   have hq:qw8 (qcd s b c) st[i3]=(inN (qcd s b c) st[i3].high||inN (qcd s b c) st[i3].low):=rfl
   generalize inN (qcd s b c) st[i3].high=b1 at*
   generalize inN (qcd s b c) st[i3].low=b2 at*
   repeat'(first|refine zQ ?_|refine zF h3 ?_|refine zF h4 ?_|(refine zI ?_;intro hlt)|(refine zC ?_ ?_<;>first|intro h|simp)|(refine zG ?_ ?_<;>first|intro h|simp)|refine zE ?_|fail)
   all_goals first
    |exact absurd hL3 (by omega)
    |(rw[qo2 hL3 hC3 (hq.trans (by simp_all))];rfl)
    |(refine⟨hL3,fun m hm hmj=>?_,qaa (nx:=128) (k:=0) (ns:=[]) (ks:=[22,21,15,3,4,5,6]) [(0,0),(1,1),(2,2),(3,3)] rfl (by simp) (by kernel_rfl)⟩
      rcases Nat.lt_succ_iff_lt_or_eq.1 hmj with h'|rfl
      ·exact hC3 m hm h'
      ·exact hq.trans (by simp_all))
    |trace_state
  ·rw[qo3 (fun m hm=>hC3 m hm (by omega))]
   repeat'(first|refine zQ ?_|(refine zI ?_;intro hlt)|(refine zC ?_ ?_<;>first|intro h|simp)|refine zE ?_|fail)
   all_goals first
    |exact absurd hL3 (by omega)
    |rfl
    |trace_state
end Go.Pv.Soil

import Derived.Test.YtfklpkgdobdbpaaGreatCBQ
import Derived.Test.YtfklpkgdobdbpaaGreatCBR
import Derived.Test.YtfklpkgdobdbpaaGreatCBS
/- Part of the proofs over YtfklpkgdobdbpaaGreat: N35, N36, N37, N38, N40, N41. -/
set_option linter.unusedVariables false
set_option linter.unusedSimpArgs false
set_option linter.unnecessarySimpa false
open Go Go.Proofs Go.Pv
set_option maxHeartbeats 8000000
set_option maxRecDepth 100000
set_option linter.unusedSimpArgs false
set_option linter.unusedVariables false
namespace Go.Pv.Soil
theorem qjp{p q:Nat→Bool}:∀{l:List Nat},(∀i∈l,p i=q i)→l.find? p=l.find? q
 |[],_=>rfl
 |a::l,h=>by
  have ih:=qjp (l:=l) fun i hi=>h i (by simp[hi])
  rw[List.find?_cons,List.find?_cons,h a (by simp),ih]
theorem qAq{p:Nat→Bool}:∀{l:List Nat} {i:Nat},l.find? p=some i→i∈l∧p i=true:=fun h=>⟨List.mem_of_find?_eq_some h,List.find?_some h⟩
theorem qfV{e:Nat→Int}{p:Nat→Bool}{r:Int}{l:List Nat}(hr:r≠0)(h:∀i∈l,e i=if p i=true then r else 0):qeR e l=findR p r l:=by
 have hc:l.find? (fun i=>decide (e i≠0))=l.find? p:=qjp fun i hi=>by
  rw[h i hi]
  cases p i
  ·simp
  ·simpa using hr
 unfold qeR findR
 rw[hc]
 cases hf:l.find? p with
 |none=>rfl
 |some i=>
  obtain⟨h1,h2⟩:=qAq hf
  simp only[Option.map_some]
  rw[h i h1,if_pos h2]
theorem qjQ{p q:Nat→Bool}{r:Int}{l:List Nat}:findR p r (l.filter q)=findR (fun i=>q i&&p i) r l:=by
 unfold findR;rw[List.find?_filter]
 congr 1
 exact qjp fun i _=>by cases q i<;>cases p i<;>rfl
theorem qiC(b:Grid)(l:List Nat):qeR (qvg b) l=findR (qAi b) 12 l:=qfV (by decide) fun i _=>by
 unfold qvg qAi
 by_cases h:lv b.levels i=30000
 ·rw[if_pos h,if_pos (decide_eq_true h)]
 ·rw[if_neg h,if_neg (by simpa using h)]
theorem qks(s:Site)(l:List Nat):qeR (qAp s) l=findR (qd2 s) 13 l:=qfV (by decide) fun i _=>rfl
theorem qop{s:Site}(hs:OkSite s)(b:Grid){c:Cut}(hc:OkCut s c)(hk:∀i∈qaD s c,lv b.levels i≠30000):qeR (qye s b c) (qaD s c)=findR (qp3 b c (dredOf s c.dredger)) 19 (qbB s b c):=by
 unfold qbB qnf
 rw[qjQ]
 refine qfV (by decide) fun i hi=>?_
 have hbi:=(hs.dredOf hc).n.2.2.1
 have hki:=hk i hi
 unfold qye qvf qp3
 by_cases h:(dredOf s c.dredger).bite<lv b.levels i-min (lv b.levels i) c.level
 ·rw[if_pos h,if_pos]
  rw[Bool.and_eq_true,decide_eq_true_eq,decide_eq_true_eq]
  exact⟨⟨hki,by omega⟩,by omega⟩
 ·rw[if_neg h,if_neg]
  rw[Bool.and_eq_true,decide_eq_true_eq,decide_eq_true_eq]
  rintro⟨⟨-,h1⟩,h2⟩
  omega
theorem qtw{s:Site}(hs:OkSite s)(b:Grid){c:Cut}(hc:OkCut s c)(hk:∀i∈qaD s c,lv b.levels i≠30000):qeR (qyf s b c) (qaD s c)=findR (qmt s b c) 6 (qbB s b c):=by
 unfold qbB qnf
 rw[qjQ]
 refine qfV (by decide) fun i hi=>?_
 have hki:=hk i hi
 unfold qyf qvf qmt
 by_cases h:0<lv b.levels i-min (lv b.levels i) c.level∧qen s b c i=false
 ·rw[if_pos h,if_pos]
  rw[Bool.and_eq_true,decide_eq_true_eq,h.2]
  exact⟨⟨hki,by have:=h.1;omega⟩,rfl⟩
 ·rw[if_neg h,if_neg]
  rw[Bool.and_eq_true,decide_eq_true_eq]
  rintro⟨⟨-,h1⟩,h2⟩
  exact h ⟨by omega,by simpa using h2⟩
theorem qFu{s:Site}{b:Grid}(h:qbR s.bed b=true)(q:Quay)(i:Nat):qhh q b i=qhh q s.bed i:=by
 have:qkm b i=qkm s.bed i:=by simp only[qkm,qeK h]
 simp only[qhh,this]
theorem qtx(s:Site)(i:Nat)(v:Int):∀j,j≤s.quays.length→((qqE s i j).2=false→∀k (hk:k<s.quays.length),k<j→qhh s.quays[k] s.bed i=30000)∧
  (((qqE s i j).2&&decide (v<(qqE s i j).1))=true↔∃k,∃hk:k<s.quays.length,k<j∧qhh s.quays[k] s.bed i≠30000∧v<qhh s.quays[k] s.bed i)
 |0,_=>by
  refine⟨fun _ k _ h=>by omega,?_⟩
  constructor
  ·intro h;simp[qqE]at h
  ·rintro⟨k,_,h,_⟩;omega
 |j+1,h=>by
  obtain⟨ih1,ih2⟩:=qtx s i v j (by omega)
  have hj:j<s.quays.length:=by omega
  have hst:=qlK (s:=s) (i:=i) hj
  have ext:(∃k,∃hk:k<s.quays.length,k<j+1∧qhh s.quays[k] s.bed i≠30000∧v<qhh s.quays[k] s.bed i)↔(∃k,∃hk:k<s.quays.length,k<j∧qhh s.quays[k] s.bed i≠30000∧v<qhh s.quays[k] s.bed i)∨(qhh s.quays[j] s.bed i≠30000∧v<qhh s.quays[j] s.bed i):=by
   constructor
   ·rintro⟨k,hk,h1,h2⟩
    rcases Nat.lt_succ_iff_lt_or_eq.1 h1 with h'|rfl
    ·exact .inl ⟨k,hk,h',h2⟩
    ·exact .inr h2
   ·rintro(⟨k,hk,h1,h2⟩|h2)
    ·exact⟨k,hk,by omega,h2⟩
    ·exact⟨j,hj,by omega,h2⟩
  rw[ext,←ih2]
  generalize hw:qhh s.quays[j] s.bed i=w at*
  have hall:(qqE s i (j+1)).2=false→(qqE s i j).2=false∧w=30000:=by
   intro h0
   rw[hst,qBF]at h0
   split at h0
   ·cases h0
   ·rename_i hh
    refine⟨h0,Classical.byContradiction fun hw=>hh ⟨hw,.inl h0⟩⟩
  refine⟨fun h0 k hk hkj=>?_,?_⟩
  ·rcases Nat.lt_succ_iff_lt_or_eq.1 hkj with h'|rfl
   ·exact ih1 (hall h0).1 k hk h'
   ·exact hw.trans (hall h0).2
  ·rw[hst]
   generalize qqE s i j=st at*
   obtain⟨s1,s2⟩:=st
   unfold qBF
   split
   ·rename_i hh
    simp only[Bool.true_and,decide_eq_true_eq,Bool.and_eq_true]
    constructor
    ·intro hv;exact .inr ⟨hh.1,hv⟩
    ·rintro(⟨h1,h2⟩|⟨_,hv⟩)
     ·rcases hh.2 with h3|h3
      ·simp only at h3;rw[h1]at h3;cases h3
      ·simp only at h3;omega
     ·exact hv
   ·rename_i hh
    simp only[Bool.and_eq_true,decide_eq_true_eq]
    constructor
    ·exact .inl
    ·rintro(h|⟨h1,h2⟩)
     ·exact h
     ·have h3:¬(s2=false∨s1<w):=fun h3=>hh ⟨h1,h3⟩
      exact⟨by simpa using fun h4=>h3 (.inl h4),by have:¬s1<w:=fun h4=>h3 (.inr h4);omega⟩
theorem qAr(s:Site)(c:Cut)(i:Nat):qlQ s c i=true↔∃k,∃hk:k<s.quays.length,qhh s.quays[k] s.bed i≠30000∧c.level<qhh s.quays[k] s.bed i:=by
 unfold qlQ qtl
 rw[(qtx s i c.level s.quays.length (Nat.le_refl _)).2]
 exact⟨fun⟨k,hk,_,h⟩=>⟨k,hk,h⟩,fun⟨k,hk,h⟩=>⟨k,hk,hk,h⟩⟩
def bk(s:Site)(b:Grid)(c:Cut):Nat→Nat→Int
 |0=>qvg b
 |1=>qAp s
 |2=>qye s b c
 |3=>qyf s b c
 |_=>fun _=>0
def qlU(s:Site)(c:Cut):Nat:=(qaD s c).getD 0 0
section
variable {s:Site}(hs:OkSite s){b:Grid}{c:Cut}(hc:OkCut s c)(hform:qms (dredOf s c.dredger) c=true)
include hs hc hform
theorem qlV(h:∀j (hj:j<(qaD s c).length),bk s b c 0 (qaD s c)[j]=0):∀i∈qaD s c,lv b.levels i≠30000:=fun i hi h0=>by
 have _:=hs
 have _:=hc
 have _:=hform
 obtain⟨j,hj,rfl⟩:=List.mem_iff_getElem.1 hi
 have:=h j hj
 simp only[bk,qvg,if_pos h0]at this
 cases this
theorem qAs(hall:∀r,r<4→∀j (hj:j<(qaD s c).length),bk s b c r (qaD s c)[j]=0):qfg s b c=(if(qcq s b c).1≤3000∧c.start+(qcq s b c).1≤1000001 then none else some (8,(qlU s c:Int))).or ((qeR (qca s c (qqF s b c)) (qbB s b c)).or (qeL s c (qbB s b c) (qcu s b c))):=by
 have hk:=qlV hs hc hform (hall 0 (by omega))
 have e2:=qc1 (hall 0 (by omega))
 have e3:=qc1 (hall 1 (by omega))
 have e4:=qc1 (hall 2 (by omega))
 have e5:=qc1 (hall 3 (by omega))
 simp only[bk]at e2 e3 e4 e5
 rw[qiC]at e2
 rw[qks]at e3
 rw[qop hs b hc hk]at e4
 rw[qtw hs b hc hk]at e5
 unfold qfg qed
 rw[if_pos hform,e2,e3,e4,e5]
 simp only[Option.none_or]
 rw[show c.start+(qcq s b c).1-c.start=(qcq s b c).1 by omega]
 rfl
theorem qAt{r:Nat}(hr:r<4)(hprev:∀r',r'<r→∀j (hj:j<(qaD s c).length),bk s b c r' (qaD s c)[j]=0){j:Nat}(hj:j<(qaD s c).length)(hC:∀j' (hj':j'<(qaD s c).length),j'<j→bk s b c r (qaD s c)[j']=0)(h:¬bk s b c r (qaD s c)[j]=0):
  qfg s b c=some (bk s b c r (qaD s c)[j],((qaD s c)[j]:Int)):=by
 have hat:=qkr hj hC rfl h
 unfold qfg qed
 rw[if_pos hform]
 match r,hr with
 |0,_=>
  simp only[bk]at hat ⊢
  rw[qiC]at hat
  rw[hat];rfl
 |1,_=>
  have e2:=qc1 (hprev 0 (by omega))
  simp only[bk]at hat e2 ⊢
  rw[qiC]at e2
  rw[qks]at hat
  rw[e2,hat];rfl
 |2,_=>
  have hk:=qlV hs hc hform (hprev 0 (by omega))
  have e2:=qc1 (hprev 0 (by omega))
  have e3:=qc1 (hprev 1 (by omega))
  simp only[bk]at hat e2 e3 ⊢
  rw[qiC]at e2
  rw[qks]at e3
  rw[qop hs b hc hk]at hat
  rw[e2,e3,hat];rfl
 |3,_=>
  have hk:=qlV hs hc hform (hprev 0 (by omega))
  have e2:=qc1 (hprev 0 (by omega))
  have e3:=qc1 (hprev 1 (by omega))
  have e4:=qc1 (hprev 2 (by omega))
  simp only[bk]at hat e2 e3 e4 ⊢
  rw[qiC]at e2
  rw[qks]at e3
  rw[qop hs b hc hk]at e4
  rw[qtw hs b hc hk]at hat
  rw[e2,e3,e4,hat];rfl
end
theorem qAu{s:Site}{b:Grid}{c:Cut}(hform:qms (dredOf s c.dredger) c=false):qfg s b c=some (3,(qlU s c:Int)):=by
 unfold qfg qed
 rw[if_neg (by rw[hform];simp)];rfl
theorem qoq{s:Site}{c:Cut}(h:0<(qaD s c).length):qlU s c=(qaD s c)[0]:=by
 unfold qlU;rw[List.getD_eq_getElem?_getD,List.getElem?_eq_getElem h];rfl
theorem qyk(s:Site)(hs:OkSite s)(b:Grid)(hb:OkBed s b)(c:Cut)(hc:OkCut s c)(i:Nat)(hi:i<b.levels.length):∀r,r<4→Contract Tryz.prog 110 [.agg (encSite s),.agg (qag b),.agg (encCut c),.int .i64 i,.int .i64 ((r+2:Nat):Int)] (.ret (.int .i64 (bk s b c r i)))
 |0,_=>qyg s hs b hb c hc i hi
 |1,_=>qyi s hs b hb c hc i hi
 |2,_=>qyh s hs b hb c hc i hi
 |3,_=>qyj s hs b hb c hc i hi
theorem qqf(s:Site)(hs:OkSite s)(b:Grid)(hb:OkBed s b)(k:Nat)(hk:k<s.quays.length)(i:Nat)(hi:i<b.levels.length):Contract Tryz.prog 63 [.agg (qct s.quays[k]),.agg (encPt (qar b i))] (.ret (.int .i64 (qhh s.quays[k] s.bed i))):=by
 rw[←qFu hb.al]
 exact qAg s.quays[k] (hs.quay.2 k hk) b i (qBD hb.ok hi)
abbrev hpR(s:Site)(b:Grid)(c:Cut):List (Nat×Blk):=[(0,⟨12,true,[encSite s]⟩),(1,⟨6,true,[qag b]⟩),(2,⟨8,true,[encCut c]⟩),(3,⟨3,true,[[.int .i64 0,.int .i64 0,.int .i64 0]]⟩)]
theorem qqg(s:Site)(hz:Sized s)(hs:OkSite s)(b:Grid)(hb:OkBed s b)(h100:b.levels.length≤100)(c:Cut)(hc:OkCut s c):Contract Tryz.prog 31 [.agg (encSite s),.agg (qag b),.agg (encCut c)] (.ret (.tup [.agg (qve (qfg s b c)),.bool (qfg s b c).isSome])):=by
 obtain⟨ha,hlt,hpos,hle⟩:=qbm hs.bed hc
 obtain⟨hll,hlo⟩:=qqc hs hb hc
 have hlen:=hb.len hs.bed
 have hlow:=qeH hs.bed hb hc
 have hef:=qiA hs hb h100 hc
 have hst:=hc.st
 have hcl:=hc.lvl
 have hq5:=hs.quay.1
 have k1:=qdL s hs.bed c hc
 have k2:=qch s (by have:=hs.dreds;omega) c.dredger
 obtain⟨hk,ed⟩:=qcp hc.dr
 obtain⟨k,ek⟩:=Int.eq_ofNat_of_zero_le hc.dr
 have hkk:(qdb s c.dredger).toNat=k:=by omega
 rw[ek]at k2
 simp only[hkk]at hk ed
 have k3:=qFf (dredOf s c.dredger) c
 have k4:Contract Tryz.prog 48 [.agg (encSite s),.agg (qag b),.agg (encCut c)] (.ret (.tup [.int .i64 (qcq s b c).1,.int .i64 (qcq s b c).2.1,.int .i64 (qBH (qcq s b c))])):=qko s hs hz b hb h100 c hc
 have k5:=qyd s hs.bed b hb c hc
 have k6:=qgx s hs.bed b hb c hc
 have k7:=qq8 qlR (c59 s.ground (okG hs.gr) hz.so (qcu s b c) hlow.ok)
 have hB:=fun i hi=>qyk s hs b hb c hc i hi
 rw[ed]at k3
 cases hform:qms (dredOf s c.dredger) c
 ·rw[ed]at hform
  rw[hform]at k3
  rw[qAu (by rw[ed];exact hform),qoq hpos]
  refine zT mix Tryz.func31 Tryz.ntmps31 Tryz.results31 rfl rfl rfl ?_;simp only[qab,Nat.reduceAdd]
  repeat'(first|refine zQ ?_|refine zF k1 ?_|refine zF k2 ?_|refine zF k3 ?_|(refine zI ?_;intro hlt)|refine zE ?_|fail)
  all_goals first
   |rfl
   |trace_state
 ·have hft:∀j (hj:j<(qaD s c).length),(qaD s c)[j]<b.levels.length:=fun j hj=>by rw[hlen];exact hlt _ (List.getElem_mem hj)
  have hrule:=fun(r:Nat) (hr:r<4)=>qAt (s:=s) (b:=b) (c:=c) hs hc hform hr
  have hrest:=qAs (s:=s) (b:=b) (c:=c) hs hc hform
  rw[ed]at hform
  rw[hform]at k3
  refine zT mix Tryz.func31 Tryz.ntmps31 Tryz.results31 rfl rfl rfl ?_;simp only[qab,Nat.reduceAdd]
  repeat'(first|refine zQ ?_|refine zF k1 ?_|refine zF k2 ?_|refine zF k3 ?_|(refine zI ?_;intro hlt)|fail)
  refine qad 4 (fun r=>⟨[(9,.int .i64 ((r+2:Nat):Int)),(8,.sl ((qaD s c).map qcx)),(3,.op 0 0 0),(4,.op 1 0 0),(5,.op 2 0 0),(6,.op 3 0 0)],hpR s b c,128,189⟩) (fun r=>∀r',r'<r→∀j (hj:j<(qaD s c).length),bk s b c r' (qaD s c)[j]=0) ?_ (by omega) ?_
  ·exact qaa (nx:=128) (k:=0) (ns:=[]) (ks:=[9,8,3,4,5,6]) [(0,0),(32,1),(64,2),(96,3)] rfl (by simp) (by kernel_rfl)
  intro r hr hR
  by_cases hr4:r<4
  ·repeat'(first|refine zQ ?_|(refine zC ?_ ?_<;>first|intro h|simp)|fail)
   all_goals try(exfalso;omega)
   refine qad (qaD s c).length (fun j=>⟨[(10,.int .i64 j),(9,.int .i64 ((r+2:Nat):Int)),(8,.sl ((qaD s c).map qcx)),(3,.op 0 0 0),(4,.op 1 0 0),(5,.op 2 0 0),(6,.op 3 0 0)],hpR s b c,128,189⟩) (fun i=>∀j (hj:j<(qaD s c).length),j<i→bk s b c r (qaD s c)[j]=0) ?_ (by omega) ?_
   ·exact qaa (nx:=128) (k:=0) (ns:=[]) (ks:=[10,9,8,3,4,5,6]) [(0,0),(1,1),(2,2),(3,3)] rfl (by simp) (by kernel_rfl)
   intro i hi hC
   by_cases hL:i<(qaD s c).length
   ·have h1:=hB (qaD s c)[i] (hft i hL) r hr4
    have h2:=hrule r hr4 hR hL hC
    generalize hq:bk s b c r (qaD s c)[i]=q at*
    repeat'(first|refine zQ ?_|refine zF h1 ?_|(refine zI ?_;intro hlt)|(refine zC ?_ ?_<;>first|intro h|simp)|refine zE ?_|fail)
    all_goals first
     |exact absurd hL (by omega)
     |(rw[h2 (by assumption)];rfl)
     |(refine⟨hL,fun j hj hji=>?_,qaa (nx:=128) (k:=0) (ns:=[]) (ks:=[10,9,8,3,4,5,6]) [(0,0),(1,1),(2,2),(3,3)] rfl (by simp) (by kernel_rfl)⟩
       rcases Nat.lt_succ_iff_lt_or_eq.1 hji with h'|rfl
       ·exact hC j hj h'
       ·exact hq.trans (by assumption))
     |trace_state
   ·repeat'(first|refine zQ ?_|(refine zI ?_;intro hlt)|(refine zC ?_ ?_<;>first|intro h|simp)|fail)
    all_goals first
     |exact absurd hL (by omega)
     |(refine⟨hr4,fun r' hr' j hj=>?_,qaa (nx:=128) (k:=0) (ns:=[]) (ks:=[9,8,3,4,5,6]) [(0,0),(1,1),(2,2),(3,3)] rfl (by simp) (by kernel_rfl)⟩
       rcases Nat.lt_succ_iff_lt_or_eq.1 hr' with h'|rfl
       ·exact hR r' h' j hj
       ·exact hC j hj (by omega))
     |trace_state
  obtain rfl:r=4:=by omega
  rw[hrest fun r' hr'=>hR r' hr',qoq hpos]
  by_cases hlarge:(qcq s b c).1≤3000∧c.start+(qcq s b c).1≤1000001
  rotate_left
  ·rw[if_neg hlarge]
   repeat'(first|refine zQ ?_|refine zF k4 ?_|(refine zI ?_;intro hlt)|(refine zC ?_ ?_<;>first|intro h|simp)|(refine zG ?_ ?_<;>first|intro h|simp)|refine zE ?_|fail)
   all_goals first
    |rfl
    |(exfalso;omega)
    |trace_state
  rw[if_pos hlarge,Option.none_or]
  repeat'(first|refine zQ ?_|refine zF k4 ?_|refine zF k5 ?_|(refine zI ?_;intro hlt)|(refine zC ?_ ?_<;>first|intro h|simp)|(refine zG ?_ ?_<;>first|intro h|simp)|refine zE ?_|fail)
  all_goals try(exfalso;omega)
  have hm:(qcq s b c).1=(qqF s b c:Int):=by unfold qqF;omega
  unfold qeL
  have hlo1:∀j (hj:j<(qbB s b c).length),(qbB s b c)[j]<b.levels.length:=fun j hj=>(hlo j hj).1
  clear hlo hrule hrest hB hft
  refine qad (qbB s b c).length (fun i=>⟨[(16,.int .i64 i),(15,.sl ((qbB s b c).map qcx)),(12,.int .i64 (qcq s b c).1),(3,.op 0 0 0),(4,.op 1 0 0),(5,.op 2 0 0),(6,.op 3 0 0)],hpR s b c,128,189⟩) (fun i=>∀j (hj:j<(qbB s b c).length),j<i→qca s c (qqF s b c) (qbB s b c)[j]=0) ?_ (by omega) ?_
  ·exact qaa (nx:=128) (k:=0) (ns:=[]) (ks:=[16,15,12,3,4,5,6]) [(0,0),(1,1),(2,2),(3,3)] rfl (by simp) (by kernel_rfl)
  intro i hi hC
  by_cases hL:i<(qbB s b c).length
  ·have h1:=qDw s hs c hc (qbB s b c)[i] (by rw[←hlen];exact hlo1 i hL) (qqF s b c) (by omega) (by omega)
   rw[←hm]at h1
   have h2:∀q,q≠0→qca s c (qqF s b c) (qbB s b c)[i]=q→qeR (qca s c (qqF s b c)) (qbB s b c)=some (q,((qbB s b c)[i]:Int)):=fun q hq h=>qkr hL hC h hq
   generalize hq:qca s c (qqF s b c) (qbB s b c)[i]=q at*
   repeat'(first|refine zQ ?_|refine zF h1 ?_|(refine zI ?_;intro hlt)|(refine zC ?_ ?_<;>first|intro h|simp)|refine zE ?_|fail)
   all_goals first
    |exact absurd hL (by omega)
    |(rw[h2 q (by assumption) rfl];rfl)
    |exact⟨hL,qx6 hC fun _=>hq.trans (by assumption),qaa (nx:=128) (k:=0) (ns:=[]) (ks:=[16,15,12,3,4,5,6]) [(0,0),(1,1),(2,2),(3,3)] rfl (by simp) (by kernel_rfl)⟩
    |trace_state
  rw[qc1 (fun j hj=>hC j hj (by omega)),Option.none_or]
  repeat'(first|refine zQ ?_|(refine zI ?_;intro hlt)|(refine zC ?_ ?_<;>first|intro h|simp)|fail)
  all_goals try exact absurd hL (by omega)
  refine qad (qbB s b c).length (fun i=>⟨[(18,.int .i64 i),(15,.sl ((qbB s b c).map qcx)),(3,.op 0 0 0),(4,.op 1 0 0),(5,.op 2 0 0),(6,.op 3 0 0)],hpR s b c,128,189⟩) (fun i=>∀j (hj:j<(qbB s b c).length),j<i→qlQ s c (qbB s b c)[j]=false) ?_ (by omega) ?_
  ·exact qaa (nx:=128) (k:=0) (ns:=[]) (ks:=[18,15,3,4,5,6]) [(0,0),(1,1),(2,2),(3,3)] rfl (by simp) (by kernel_rfl)
  intro i2 hi2 hC2
  by_cases hL2:i2<(qbB s b c).length
  ·have hqi:=qAr s c (qbB s b c)[i2]
   have h2:qlQ s c (qbB s b c)[i2]=true→findR (qlQ s c) 15 (qbB s b c)=some (15,((qbB s b c)[i2]:Int)):=fun h=>qgU hL2 hC2 h
   repeat'(first|refine zQ ?_|(refine zC ?_ ?_<;>first|intro h|simp)|fail)
   all_goals try exact absurd hL2 (by omega)
   refine qad s.quays.length (fun j=>⟨[(19,.int .i64 j),(18,.int .i64 i2),(15,.sl ((qbB s b c).map qcx)),(3,.op 0 0 0),(4,.op 1 0 0),(5,.op 2 0 0),(6,.op 3 0 0)],hpR s b c,128,189⟩) (fun j=>∀m (hm:m<s.quays.length),m<j→¬(qhh s.quays[m] s.bed (qbB s b c)[i2]≠30000∧c.level<qhh s.quays[m] s.bed (qbB s b c)[i2])) ?_ (by omega) ?_
   ·exact qaa (nx:=128) (k:=0) (ns:=[]) (ks:=[19,18,15,3,4,5,6]) [(0,0),(1,1),(2,2),(3,3)] rfl (by simp) (by kernel_rfl)
   intro j hj hD
   by_cases hM:j<s.quays.length
   ·have h3:=qCP b hb.ok (qbB s b c)[i2] (hlo1 i2 hL2)
    have h4:=qqf s hs b hb j hM (qbB s b c)[i2] (hlo1 i2 hL2)
    generalize hw:qhh s.quays[j] s.bed (qbB s b c)[i2]=w at*
    repeat'(first|refine zQ ?_|refine zF h3 ?_|refine zF h4 ?_|(refine zI ?_;intro hlt)|(refine zC ?_ ?_<;>first|intro h|simp)|(refine zG ?_ ?_<;>first|intro h|simp)|refine zE ?_|fail)
    all_goals first
     |exact absurd hM (by omega)
     |(rw[h2 (hqi.2 ⟨j,hM,by rw[hw];assumption,by rw[hw];assumption⟩)];rfl)
     |(refine⟨hM,fun m hm hmj=>?_,qaa (nx:=128) (k:=0) (ns:=[]) (ks:=[19,18,15,3,4,5,6]) [(0,0),(1,1),(2,2),(3,3)] rfl (by simp) (by kernel_rfl)⟩
       rcases Nat.lt_succ_iff_lt_or_eq.1 hmj with h'|rfl
       ·exact hD m hm h'
       ·rw[hw];omega)
     |trace_state
   ·repeat'(first|refine zQ ?_|(refine zI ?_;intro hlt)|(refine zC ?_ ?_<;>first|intro h|simp)|fail)
    all_goals first
     |exact absurd hM (by omega)
     |(refine⟨hL2,qlN hL2 hC2 (Bool.eq_false_iff.2 fun h=>?_),qaa (nx:=128) (k:=0) (ns:=[]) (ks:=[18,15,3,4,5,6]) [(0,0),(1,1),(2,2),(3,3)] rfl (by simp) (by kernel_rfl)⟩
       obtain⟨m,hm,h3⟩:=hqi.1 h
       exact hD m hm (by omega) h3)
     |trace_state
  rw[qgV (fun j hj=>hC2 j hj (by omega)),Option.none_or]
  have hsl:=qgT s.ground (qcu s b c) (qcu s b c).levels.length
  have hsl2:=Nat.mul_le_mul hlow.ok.small hlow.ok.small
  generalize qbI s.ground (qcu s b c) (qcu s b c).levels.length=st at*
  repeat'(first|refine zQ ?_|refine zF k6 ?_|refine zF k7 ?_|(refine zC ?_ ?_<;>first|intro h|simp)|fail)
  all_goals try exact absurd hL2 (by omega)
  refine qad st.length (fun i=>⟨[(22,.int .i64 i),(21,.sl (st.map qbW)),(15,.sl ((qbB s b c).map qcx)),(3,.op 0 0 0),(4,.op 1 0 0),(5,.op 2 0 0),(6,.op 3 0 0)],hpR s b c,128,189⟩) (fun i=>∀j (hj:j<st.length),j<i→qp7 (qbB s b c) st[j]=false) ?_ (by omega) ?_
  ·exact qaa (nx:=128) (k:=0) (ns:=[]) (ks:=[22,21,15,3,4,5,6]) [(0,0),(1,1),(2,2),(3,3)] rfl (by simp) (by kernel_rfl)
  intro i3 hi3 hC3
  by_cases hL3:i3<st.length
  ·have h3:=qrD (qbB s b c) (by omega) st[i3].high
   have h4:=qrD (qbB s b c) (by omega) st[i3].low
   have hq:qp7 (qbB s b c) st[i3]=(inN (qbB s b c) st[i3].high||inN (qbB s b c) st[i3].low):=rfl
   generalize inN (qbB s b c) st[i3].high=b1 at*
   generalize inN (qbB s b c) st[i3].low=b2 at*
   repeat'(first|refine zQ ?_|refine zF h3 ?_|refine zF h4 ?_|(refine zI ?_;intro hlt)|(refine zC ?_ ?_<;>first|intro h|simp)|(refine zG ?_ ?_<;>first|intro h|simp)|refine zE ?_|fail)
   all_goals first
    |exact absurd hL3 (by omega)
    |(rw[qp8 hL3 hC3 (hq.trans (by simp_all))];rfl)
    |(refine⟨hL3,fun m hm hmj=>?_,qaa (nx:=128) (k:=0) (ns:=[]) (ks:=[22,21,15,3,4,5,6]) [(0,0),(1,1),(2,2),(3,3)] rfl (by simp) (by kernel_rfl)⟩
      rcases Nat.lt_succ_iff_lt_or_eq.1 hmj with h'|rfl
      ·exact hC3 m hm h'
      ·exact hq.trans (by simp_all))
    |trace_state
  ·rw[qp9 (fun m hm=>hC3 m hm (by omega))]
   repeat'(first|refine zQ ?_|(refine zI ?_;intro hlt)|(refine zC ?_ ?_<;>first|intro h|simp)|refine zE ?_|fail)
   all_goals first
    |exact absurd hL3 (by omega)
    |rfl
    |trace_state
def qcz(s:Site)(l:List Cut):Nat→Grid
 |0=>s.bed
 |n+1=>match l[n]? with
  |some c=>qcu s (qcz s l n) c
  |none=>qcz s l n
theorem qe1{s:Site}{l:List Cut}{n:Nat}(h:n<l.length):qcz s l (n+1)=qcu s (qcz s l n) l[n]:=by
 simp only[qcz,List.getElem?_eq_getElem h]
theorem qfW(s:Site)(h:OkSite s):OkBed s s.bed:=⟨h.bed,h.be,decide_eq_true ⟨rfl,rfl,rfl,rfl,rfl⟩⟩
theorem qgE{s:Site}(h:OkSite s){l:List Cut}(hl:∀i (hi:i<l.length),OkCut s l[i]):∀n,OkBed s (qcz s l n)
 |0=>qfW s h
 |n+1=>by
  have ih:=qgE h hl n
  by_cases hn:n<l.length
  ·rw[qe1 hn];exact qeH h.bed ih (hl n hn)
  ·simp only[qcz,List.getElem?_eq_none (Nat.le_of_not_lt hn)];exact ih
theorem qty{s:Site}{l:List Cut}{k:Nat}:∀n,n≤k→qcz s (l.take k) n=qcz s l n
 |0,_=>rfl
 |n+1,h=>by
  have ih:=qty (s:=s) (l:=l) (k:=k) n (by omega)
  simp only[qcz,ih]
  rw[List.getElem?_take,if_pos (show n<k by omega)]
theorem qor(s:Site)(hs:OkSite s)(l:List Cut)(hll:l.length≤1000000)(hl:∀i (hi:i<l.length),OkCut s l[i]):Contract Tryz.prog 119 [.agg (encSite s),.sl (l.map encCut)] (.ret (.agg (qag (qcz s l l.length)))):=by
 have hsm:=hs.bed.small
 have hp0:0<s.bed.levels.length:=by
  have hb:=hs.bed.bds
  have h2:=hs.bed.len
  have h3:=Int.mul_pos (show 0<s.bed.cols by omega) (show 0<s.bed.rows by omega)
  omega
 have h1:=qq8 qrk (qKv s.bed.levels hp0 (by omega))
 refine zT mix Tryz.func119 Tryz.ntmps119 Tryz.results119 rfl rfl rfl ?_;simp only[qab,Nat.reduceAdd]
 repeat'(first|refine zQ ?_|refine zF h1 ?_|fail)
 refine qad l.length (fun i=>⟨[(16,.int .i64 i),(15,.int .i64 l.length),(14,.sl (l.map encCut)),(2,.op 0 0 0),(4,.op 1 0 0),(5,.op 2 0 0)],[(0,⟨12,true,[encSite s]⟩),(1,⟨6,false,[[.int .i64 0,.int .i64 0,.int .i64 0,.int .i64 0,.int .i64 0,.nilsl]]⟩),(2,⟨6,false,[qag (qcz s l i)]⟩)],96,29⟩) (fun i=>True) ?_ trivial ?_
 ·exact qaa (nx:=96) (k:=0) (ns:=[]) (ks:=[16,15,14,2,4,5]) [(0,0),(32,1),(128,2)] rfl (by simp) (by kernel_rfl)
 intro i hi _
 have hok:=qgE hs hl i
 by_cases hL:i<l.length
 ·have h2:=qiw s hs.bed (qcz s l i) hok l[i] (hl i hL)
  rw[←qe1 hL]at h2
  generalize qcz s l (i+1)=g2 at*
  generalize qcz s l i=g1 at*
  generalize qbB s g1 l[i]=lc at*
  repeat'(first|refine zQ ?_|refine zF h2 ?_|(refine zI ?_;intro hlt)|(refine zC ?_ ?_<;>first|intro h|simp)|fail)
  all_goals first
   |exact absurd hL (by omega)
   |exact⟨hL,trivial,qaa (nx:=96) (k:=0) (ns:=[]) (ks:=[16,15,14,2,4,5]) [(0,0),(1,1),(2,2)] rfl (by simp) (by kernel_rfl)⟩
   |trace_state
 ·obtain rfl:i=l.length:=by omega
  generalize qcz s l l.length=g1 at*
  repeat'(first|refine zQ ?_|(refine zI ?_;intro hlt)|(refine zC ?_ ?_<;>first|intro h|simp)|fail)
  all_goals first
   |exact absurd (show l.length<l.length by omega) hL
   |exact qif rfl rfl rfl
   |trace_state
theorem qlW(s:Site)(hs:OkSite s)(l:List Cut)(hll:l.length≤1000000)(hl:∀i (hi:i<l.length),OkCut s l[i])(n:Nat)(hn:n≤l.length):Contract Tryz.prog 59 [.agg (encSite s),.sl (l.map encCut),.int .i64 n] (.ret (.agg (qag (qcz s l n)))):=by
 have hsm:=hs.bed.small
 have h1:Contract Tryz.prog 79 [.agg (qag s.bed)] (.ret (.agg (qag s.bed))):=qEU qrk (c91 s.bed (by omega))
 refine zT mix Tryz.func59 Tryz.ntmps59 Tryz.results59 rfl rfl rfl ?_;simp only[qab,Nat.reduceAdd]
 repeat'(first|refine zQ ?_|refine zF h1 ?_|fail)
 refine qad n (fun i=>⟨[(8,.int .i64 i),(2,.int .i64 n),(1,.sl (l.map encCut)),(3,.op 0 0 0),(6,.op 1 0 0),(7,.op 2 0 0)],[(0,⟨12,true,[encSite s]⟩),(1,⟨6,false,[[.int .i64 0,.int .i64 0,.int .i64 0,.int .i64 0,.int .i64 0,.nilsl]]⟩),(2,⟨6,false,[qag (qcz s l i)]⟩)],96,25⟩) (fun i=>True) ?_ trivial ?_
 ·exact qaa (nx:=96) (k:=0) (ns:=[]) (ks:=[8,2,1,3,6,7]) [(0,0),(32,1),(160,2)] rfl (by simp) (by kernel_rfl)
 intro i hi _
 have hok:=qgE hs hl i
 by_cases hL:i<n
 ·have hL2:i<l.length:=by omega
  have h2:=qgx s hs.bed (qcz s l i) hok l[i] (hl i hL2)
  rw[←qe1 hL2]at h2
  generalize qcz s l (i+1)=g2 at*
  generalize qcz s l i=g1 at*
  repeat'(first|refine zQ ?_|refine zF h2 ?_|(refine zI ?_;intro hlt)|(refine zC ?_ ?_<;>first|intro h|simp)|fail)
  all_goals first
   |exact absurd hL (by omega)
   |exact⟨hL,trivial,qaa (nx:=96) (k:=0) (ns:=[]) (ks:=[8,2,1,3,6,7]) [(0,0),(1,1),(2,2)] rfl (by simp) (by kernel_rfl)⟩
   |trace_state
 ·obtain rfl:i=n:=by omega
  generalize qcz s l i=g1 at*
  repeat'(first|refine zQ ?_|(refine zI ?_;intro hlt)|(refine zC ?_ ?_<;>first|intro h|simp)|fail)
  all_goals first
   |exact absurd (show i<i by omega) hL
   |exact qif rfl rfl rfl
   |trace_state
def qBO(s:Site)(l:List Cut)(n:Int):Grid×Int:=if qcy s l≠0 then(qrj,qcy s l)else if 0≤n∧n≤l.length then(qcz s l n.toNat,0)else(qrj,2)
theorem qDx(s:Site)(hz:Sized s)(hd:s.dreds.length<1000000000000)(l:List Cut)(hl:l.length≤9223372036854775807)(n:Int):Contract Tryz.prog 39 [.agg (encSite s),.sl (l.map encCut),.int .i64 n] (.ret (.tup [.agg (qag (qBO s l n).1),.int .i64 (qBO s l n).2])):=by
 have h1:=qdK s hz l hl hd
 unfold qBO
 by_cases h0:qcy s l=0
 rotate_left
 ·rw[if_pos h0]
  generalize qcy s l=q at*
  refine zT mix Tryz.func39 Tryz.ntmps39 Tryz.results39 rfl rfl rfl ?_;simp only[qab,Nat.reduceAdd]
  repeat'(first|refine zQ ?_|refine zF h1 ?_|(refine zC ?_ ?_<;>first|intro h|simp)|fail)
  all_goals first
   |exact qcF rfl rfl rfl rfl
   |(exfalso;omega)
   |trace_state
 rw[if_neg (not_not_intro h0)]
 rw[h0]at h1
 obtain⟨hll,hl2⟩:=qd7 h0
 have hs:=(qcw h0).1
 by_cases hn:0≤n∧n≤l.length
 ·rw[if_pos hn]
  obtain⟨k,rfl⟩:=Int.eq_ofNat_of_zero_le hn.1
  have hk:k≤l.length:=by omega
  have h2:=qor s hs (l.take k) (by rw[List.length_take];omega) (fun i hi=>by
   rw[List.getElem_take];exact hl2 i (by rw[List.length_take]at hi;omega))
  rw[qty _ (by rw[List.length_take];omega),show(l.take k).length=k by rw[List.length_take];omega]at h2
  simp only[Int.toNat_natCast]
  generalize qcz s l k=g at*
  refine zT mix Tryz.func39 Tryz.ntmps39 Tryz.results39 rfl rfl rfl ?_;simp only[qab,Nat.reduceAdd]
  repeat'(first|((with_reducible apply qae);rfl;(exact qml _ _ _);rfl)|refine zQ ?_|refine zF h1 ?_|refine zF h2 ?_|(refine zC ?_ ?_<;>first|intro h|simp)|fail)
  all_goals first
   |exact qcF rfl rfl rfl rfl
   |(exfalso;omega)
   |trace_state
 ·rw[if_neg hn]
  refine zT mix Tryz.func39 Tryz.ntmps39 Tryz.results39 rfl rfl rfl ?_;simp only[qab,Nat.reduceAdd]
  repeat'(first|((with_reducible apply qae);rfl;(exact qml _ _ _);rfl)|refine zQ ?_|refine zF h1 ?_|(refine zC ?_ ?_<;>first|intro h|simp)|fail)
  all_goals first
   |exact qcF rfl rfl rfl rfl
   |(exfalso;omega)
   |trace_state
theorem qtz{P:Program}{env:List (Nat×D)}{hp:List (Nat×Blk)}{nx n:Nat}{v1 v2 v3 v4:ResultVar}{d1 r1 d2 r2 d3 r3 d4 r4:D}(h1:qb7 P ⟨env,hp,nx,n⟩ v1=some d1)(h2:qb7 P ⟨env,hp,nx,n⟩ v2=some d2)(h3:qb7 P ⟨env,hp,nx,n⟩ v3=some d3)(h4:qb7 P ⟨env,hp,nx,n⟩ v4=some d4)
  (p1:pur (lkH hp) 64 d1=some r1) (p2:pur (lkH hp) 64 d2=some r2) (p3:pur (lkH hp) 64 d3=some r3) (p4:pur (lkH hp) 64 d4=some r4):qg3 P [v1,v2,v3,v4] (.ret (.tup [r1,r2,r3,r4])) .ret ⟨env,hp,nx,n⟩:=by
 refine⟨_,rfl,.inl ⟨[.pure,.pure,.pure,.pure],[d1,d2,d3,d4],[r1,r2,r3,r4],by simp[h1,h2,h3,h4],by simp[qbC],⟨?_,?_,?_,?_,trivial⟩,rfl,fun hh=>by simp at hh⟩⟩
 ·show pur (qbd [] (lkH hp)) 64 d1=some r1
  rw[qbU];exact p1
 ·show pur (qbd [] (lkH hp)) 64 d2=some r2
  rw[qbU];exact p2
 ·show pur (qbd [] (lkH hp)) 64 d3=some r3
  rw[qbU];exact p3
 ·show pur (qbd [] (lkH hp)) 64 d4=some r4
  rw[qbU];exact p4
def spE(s:Site)(l:List Cut)(i:Nat):Int×Int:=match l[i]? with
 |some c=>(c.start,c.start+(qcq s (qcz s l i) c).1)
 |none=>(0,0)
def prE(s:Site)(l:List Cut)(i:Nat):Int:=match l[i]? with
 |some c=>(qcq s (qcz s l i) c).2.1
 |none=>0
def spL(s:Site)(l:List Cut)(k:Nat):List (Int×Int):=(List.range k).map (spE s l)
def prS(s:Site)(l:List Cut):Nat→Int
 |0=>0
 |k+1=>prS s l k+prE s l k
theorem qBP{s:Site}{l:List Cut}{i:Nat}(h:i<l.length):spE s l i=(l[i].start,l[i].start+(qcq s (qcz s l i) l[i]).1):=by simp only[spE,List.getElem?_eq_getElem h]
theorem qtA{s:Site}{l:List Cut}{i:Nat}(h:i<l.length):prE s l i=(qcq s (qcz s l i) l[i]).2.1:=by simp only[prE,List.getElem?_eq_getElem h]
theorem qAx(s:Site)(l:List Cut)(k:Nat):spL s l (k+1)=spL s l k++[spE s l k]:=by unfold spL;rw[List.range_succ,List.map_append];rfl
theorem qhI(s:Site)(l:List Cut)(k:Nat):(spL s l k).length=k:=by simp[spL]
def qfd(l:List Cut)(k:Nat):Int:=match l[k]? with
 |some c=>c.start
 |none=>0
theorem qdN{l:List Cut}{k:Nat}(h:k<l.length):qfd l k=l[k].start:=by simp only[qfd,List.getElem?_eq_getElem h]
noncomputable def qvi(s:Site)(l:List Cut)(k:Nat):Option (Int×Int):=match l[k]? with
 |some c=>if 0<k∧qfd l k<qfd l (k-1)then some (9,(qlU s c:Int))else if crossE s l (spL s l (k+1)) k=true then some (18,(qlU s c:Int))else qfg s (qcz s l k) c
 |none=>none
theorem qjq{s:Site}{l:List Cut}{k:Nat}(h:k<l.length):qvi s l k=if 0<k∧qfd l k<qfd l (k-1)then some (9,(qlU s l[k]:Int))else if crossE s l (spL s l (k+1)) k=true then some (18,(qlU s l[k]:Int))else qfg s (qcz s l k) l[k]:=by simp only[qvi,List.getElem?_eq_getElem h]
noncomputable def qbb(s:Site)(l:List Cut):Nat→Option (Nat×Int×Int)
 |0=>none
 |k+1=>(qbb s l k).or ((qvi s l k).map fun v=>(k,v.1,v.2))
theorem qfX{s:Site}{l:List Cut}:∀{n:Nat},(∀k,k<n→qvi s l k=none)→qbb s l n=none
 |0,_=>rfl
 |n+1,h=>by
  rw[qbb,qfX fun k hk=>h k (by omega),h n (by omega)];rfl
theorem qeM{s:Site}{l:List Cut}{k:Nat}{r c:Int}(hC:∀j,j<k→qvi s l j=none)(h:qvi s l k=some (r,c)):∀{n:Nat},k<n→qbb s l n=some (k,r,c)
 |0,h0=>by omega
 |n+1,hn=>by
  rw[qbb]
  rcases Nat.lt_succ_iff_lt_or_eq.1 hn with h'|rfl
  ·rw[qeM hC h h'];rfl
  ·rw[qfX hC,h];rfl
def qyo:Option (Nat×Int×Int)→List D
 |none=>[.int .i64 0,.int .i64 0,.int .i64 0]
 |some (k,r,c)=>[.int .i64 k,.int .i64 c,.int .i64 r]
theorem qG8{s:Site}(hs:OkSite s){b:Grid}(hb:OkBed s b)(h100:b.levels.length≤100){c:Cut}(hc:OkCut s c)(h:qfg s b c=none):((qcq s b c).1≤3000∧c.start+(qcq s b c).1≤1000001)∧(0≤(qcq s b c).2.1∧(qcq s b c).2.1≤100000000000000):=by
 have hef:=qiA hs hb h100 hc
 have hm:(qcq s b c).1≤3000∧c.start+(qcq s b c).1≤1000001:=by
  unfold qfg qed at h
  simp only[qcI]at h
  obtain⟨⟨-,-,-,-,-,h8⟩,-⟩:=h
  by_cases h9:c.start+(qcq s b c).1-c.start≤3000∧c.start+(qcq s b c).1≤1000001
  ·omega
  ·rw[if_neg h9]at h8;cases h8
 refine⟨hm,hef.2.1,?_⟩
 have hv:=qlL hs.gr hs.bed hb h100 hc
 have hD:=hs.dredOf hc
 have hlen:(qbk s b c).length≤8:=by rw[qkn];exact qfs (okG hs.gr)
 obtain⟨⟨hm1,-⟩,hm0,-⟩:=And.intro hm hef.1
 unfold qcq qiS at hm1 hm0 ⊢
 by_cases hmi:qva (dredOf s c.dredger) (qbk s b c)=true
 ·rw[if_pos hmi];simp
 ·rw[if_neg hmi]at hm1 hm0 ⊢
  simp only at hm1 hm0 ⊢
  have h2:=(qnk hD hv (qbk s b c).length (Nat.le_refl _) fun j hj hj' h0=>by
   rcases Int.lt_or_le (qg5 (dredOf s c.dredger) (qbk s b c)[j].soil) 0 with h|h
   ·exact absurd (List.any_eq_true.2 ⟨_,List.getElem_mem hj',by rw[Bool.and_eq_true,decide_eq_true_eq,decide_eq_true_eq];exact⟨h0,h⟩⟩) hmi
   ·exact h).2
  rw[List.take_length]at h2
  have hh:=hD.n.2.2.2.2.2
  have h3:=qbN (a:=qhR (dredOf s c.dredger) (qbk s b c)) (b:=(dredOf s c.dredger).hour) (m:=3000) (n:=1000000) ⟨hm0,hm1⟩ hh
  have h4:=(qlG (a:=qhR (dredOf s c.dredger) (qbk s b c)*(dredOf s c.dredger).hour) (b:=60) (by omega) h3.1).2
  omega
end Go.Pv.Soil

import Derived.Test.YtfklpkgdobdbpaaGreatCAX
/- Part of the proofs over YtfklpkgdobdbpaaGreat: N10. -/
set_option linter.unusedVariables false
set_option linter.unusedSimpArgs false
set_option linter.unnecessarySimpa false
open Go Go.Proofs Go.Pv
set_option maxHeartbeats 8000000
set_option maxRecDepth 100000
set_option linter.unusedSimpArgs false
set_option linter.unusedVariables false
namespace Go.Pv.Soil
def qoe:Dred:=⟨.empty,0,0,0,0,0,0,[]⟩
def dredOf(s:Site)(n:ByteArray):Dred:=match s.dreds[(qdb s n).toNat]? with
 |some d=>if 0≤qdb s n then d else qoe
 |none=>qoe
theorem qkE{α:Type}{p:α→Bool}{l:List α}(h:0≤qcs p l):(qcs p l).toNat<l.length:=by
 unfold qcs at h ⊢
 cases hf:l.findIdx? p with
 |none=>rw[hf]at h;simp at h
 |some i=>exact(List.findIdx?_eq_some_iff_getElem.1 hf).1
theorem qcp{s:Site}{n:ByteArray}(h:0≤qdb s n):∃hk:(qdb s n).toNat<s.dreds.length,dredOf s n=s.dreds[(qdb s n).toNat]:=by
 have hk:(qdb s n).toNat<s.dreds.length:=qkE h
 refine⟨hk,?_⟩
 unfold dredOf
 rw[List.getElem?_eq_getElem hk]
 exact if_pos h
theorem qxz{s:Site}{n:ByteArray}(h:qdb s n<0):dredOf s n=qoe:=by
 unfold dredOf
 split
 ·rw[if_neg (by omega)]
 ·rfl
theorem qu3(d:Dred)(n:ByteArray):Contract Tryz.prog 240 [.agg (qa4 d),.ptr [.str n]] (.ret (.bool (decide (d.name=n)))):=by
 refine zT mix Tryz.func240 Tryz.ntmps240 Tryz.results240 rfl rfl rfl ?_;simp only[qab,Nat.reduceAdd]
 repeat'(first|(with_reducible rfl)|refine zQ ?_|((with_reducible apply qaz);rfl;rfl)|refine zE ?_|fail)
theorem qly(s:Site)(h:s.dreds.length<1000000000000)(n:ByteArray):Contract Tryz.prog 180 [.agg (encSite s),.str n] (.ret (.tup [.agg (qa4 (dredOf s n)),.bool (decide (0≤qdb s n))])):=by
 have h1:=qzV s.dreds h 240 [.ptr [.str n]] (fun _ _=>rfl) rfl (fun d=>decide (d.name=n)) fun d _=>qu3 d n
 by_cases h0:0≤qdb s n
 ·obtain⟨hk,e⟩:=qcp h0
  rw[decide_eq_true h0,e]
  obtain⟨k,ek⟩:=Int.eq_ofNat_of_zero_le h0
  have hkk:(qdb s n).toNat=k:=by omega
  have h1':Contract Tryz.prog 239 [.sl (s.dreds.map qa4),.clo (.func 240) [] [.ptr [.str n]]] (.ret (.int .i64 (k:Int))):=by rw[←ek];exact h1
  simp only[hkk]at*
  refine zT mix Tryz.func180 Tryz.ntmps180 Tryz.results180 rfl rfl rfl ?_;simp only[qab,Nat.reduceAdd]
  repeat'(first|refine zQ ?_|refine zF h1' ?_|(refine zI ?_;intro hlt)|fail)
  all_goals first
   |(exfalso;omega)
   |exact qcF rfl rfl rfl rfl
   |trace_state
 ·rw[decide_eq_false h0,qxz (by omega)]
  have h1':Contract Tryz.prog 239 [.sl (s.dreds.map qa4),.clo (.func 240) [] [.ptr [.str n]]] (.ret (.int .i64 (qdb s n))):=h1
  generalize qdb s n=q at*
  refine zT mix Tryz.func180 Tryz.ntmps180 Tryz.results180 rfl rfl rfl ?_;simp only[qab,Nat.reduceAdd]
  repeat'(first|refine zQ ?_|refine zF h1' ?_|(refine zI ?_;intro hlt)|(refine zC ?_ ?_<;>first|intro h|simp)|fail)
  all_goals first
   |(exfalso;omega)
   |exact qcF rfl rfl rfl rfl
   |trace_state
theorem qch(s:Site)(h:s.dreds.length<1000000000000)(nm:ByteArray):Contract Tryz.prog 104 [.agg (encSite s),.str nm] (.ret (.int .i64 (qdb s nm))):=by
 refine zT mix Tryz.func104 Tryz.ntmps104 Tryz.results104 rfl rfl rfl ?_;simp only[qab,Nat.reduceAdd]
 repeat'(first|refine zQ ?_|fail)
 refine qad s.dreds.length (fun i=>⟨[(5,.int .i64 i),(2,.op 0 0 0),(1,.str nm)],[(0,⟨12,true,[encSite s]⟩)],32,22⟩) (fun i=>∀j (hj:j<i) (hj':j<s.dreds.length),decide (s.dreds[j].name=nm)=false) (qaa (nx:=32) (k:=0) (ns:=[]) (ks:=[5,2,1]) [(0,0)] rfl (by simp) (by kernel_rfl)) (by omega) ?_
 intro i hi hC
 by_cases hL:i<s.dreds.length
 ·repeat'(first|refine zQ ?_|(refine zI ?_;intro hlt)|(refine zC ?_ ?_<;>first|intro h|simp)|((with_reducible apply qaz);rfl;rfl)|refine zE ?_|fail)
  all_goals try simp only[Int.toNat_natCast]at*
  all_goals first
   |exact absurd hL (by omega)
   |exact(qa1 hL (decide_eq_true (by assumption)) fun j hj=>hC j hj (by omega)).symm
   |(refine⟨by omega,fun j hj hj'=>?_,qaa (nx:=32) (k:=0) (ns:=[]) (ks:=[5,2,1]) [(0,0)] rfl (by simp) (by kernel_rfl)⟩
     rcases Nat.lt_succ_iff_lt_or_eq.1 hj with h'|rfl
     ·exact hC j h' hj'
     ·exact decide_eq_false (by assumption))
   |trace_state
 ·repeat'(first|refine zQ ?_|(refine zI ?_;intro hlt)|(refine zC ?_ ?_<;>first|intro h|simp)|((with_reducible apply qaz);rfl;rfl)|refine zE ?_|fail)
  all_goals first
   |exact absurd hL (by omega)
   |(refine(qa8 fun x hx=>?_).symm
     obtain⟨j,hj,rfl⟩:=List.mem_iff_getElem.1 hx
     exact hC j (by omega) hj)
   |trace_state
theorem qxA{s:Site}{l:List Cut}(h:40<l.length):8=qls s l:=by unfold qls;rw[if_pos h]
theorem qxB{s:Site}{l:List Cut}(h:¬40<l.length):qls s l=qg4 (·.name) (qec s) l:=by unfold qls;rw[if_neg h]
theorem qsU{s:Site}{c:Cut}(h:qdb s c.dredger<0):qec s c=6:=by unfold qec;rw[if_pos h]
theorem qsV{s:Site}{c:Cut}(h:¬qdb s c.dredger<0)(h2:¬((-20000≤c.level∧c.level≤20000)∧(0≤c.start∧c.start≤1000000))):qec s c=2:=by
 unfold qec;rw[if_neg h,if_pos]
 rwa[qhQ,decide_eq_true_eq]
theorem qpJ{s:Site}{c:Cut}(h:¬qdb s c.dredger<0)(h2:(-20000≤c.level∧c.level≤20000)∧(0≤c.start∧c.start≤1000000))(h3:¬((0≤c.col∧c.col≤s.bed.cols-1)∧(0≤c.row∧c.row≤s.bed.rows-1)∧(1≤c.cols∧c.cols≤s.bed.cols-c.col)∧(1≤c.rows∧c.rows≤s.bed.rows-c.row))):qec s c=10:=by
 unfold qec;rw[if_neg h,if_neg,if_pos h3]
 rw[qhQ,decide_eq_true_eq];exact not_not_intro h2
theorem qsW{s:Site}{c:Cut}(h:¬qdb s c.dredger<0)(h2:(-20000≤c.level∧c.level≤20000)∧(0≤c.start∧c.start≤1000000))(h3:(0≤c.col∧c.col≤s.bed.cols-1)∧(0≤c.row∧c.row≤s.bed.rows-1)∧(1≤c.cols∧c.cols≤s.bed.cols-c.col)∧(1≤c.rows∧c.rows≤s.bed.rows-c.row)):qec s c=0:=by
 unfold qec;rw[if_neg h,if_neg,if_neg (not_not_intro h3)]
 rw[qhQ,decide_eq_true_eq];exact not_not_intro h2
theorem qrg(s:Site)(hb:OkGrid s.bed)(hd:s.dreds.length<1000000000000)(l:List Cut)(hl:l.length≤9223372036854775807):Contract Tryz.prog 103 [.agg (encSite s),.sl (l.map encCut)] (.ret (.int .i64 (qls s l))):=by
 have hbd:=hb.bds
 refine zT mix Tryz.func103 Tryz.ntmps103 Tryz.results103 rfl rfl rfl ?_;simp only[qab,Nat.reduceAdd]
 repeat'(first|((with_reducible (show evG _ _ (.region 3 _ _) _ _));(with_reducible apply qbM))|((with_reducible apply qdD);rfl)|(with_reducible apply qf2)|(with_reducible apply qcY)|(with_reducible apply qd6)|refine zS ?_|refine zA ?_|(refine zC ?_ ?_<;>first|intro h|simp)|refine zE ?_|fail)
 ·exact qxA (by omega)
 rw[qxB (by omega)]
 refine qad l.length (fun i=>⟨[(5,.om 0),(16,.int .i64 i),(14,.sl (l.map encCut)),(15,.int .i64 l.length),(2,.op 1 0 0)],[(0,⟨0,true,(l.take i).map fun x=>[.str x.name,.bool true]⟩),(1,⟨12,true,[encSite s]⟩)],64,104⟩) (fun i=>∀j,j<i→qcf (·.name) (qec s) l j=0) (qaa (nx:=64) (k:=0) (ns:=[]) (ks:=[5,16,14,15,2]) [(160,0),(0,1)] rfl (by simp) (by kernel_rfl)) (by omega) ?_
 intro i hi hC
 by_cases hL:i<l.length
 rotate_left
 ·repeat'(first|refine zQ ?_|(refine zI ?_;intro hlt)|(refine zC ?_ ?_<;>first|intro h|simp)|refine zE ?_|fail)
  all_goals first
   |exact absurd hL (by omega)
   |exact(qaC fun j hj=>hC j (by omega)).symm
   |trace_state
 have h1:=qpC l[i].name
 have h2:=qly s hd l[i].dredger
 generalize dredOf s l[i].dredger=dr at h2
 by_cases hn:qaZ l[i].name=true
 rotate_left
 ·have hn':qaZ l[i].name=false:=by simpa using hn
  rw[hn']at h1
  repeat'(first|refine zQ ?_|refine zF h2 ?_|refine zF h1 ?_|(refine zI ?_;intro hlt)|(refine zC ?_ ?_<;>first|intro h|simp)|refine zE ?_|fail)
  all_goals first
   |exact absurd hL (by omega)
   |exact qaV hL hC (qna hL hn') (by decide)
   |trace_state
 rw[hn]at h1
 by_cases ha:((l.take i).any fun y=>decide (y.name=l[i].name))=true
 ·have hf:=qim (nm:=fun x:Cut=>x.name) ha
  repeat'(first|((with_reducible apply qb1);rfl;rfl;rfl;rfl;(exact hf);rfl;rfl)|refine zS ?_|refine zA ?_|refine zF h2 ?_|refine zF h1 ?_|(refine zI ?_;intro hlt)|(refine zC ?_ ?_<;>first|intro h|simp)|refine zE ?_|fail)
  all_goals first
   |exact absurd hL (by omega)
   |exact qaV hL hC (qnb hL hn ha) (by decide)
   |trace_state
 have ha':((l.take i).any fun y=>decide (y.name=l[i].name))=false:=by simpa using ha
 have hf:=qlt (nm:=fun x:Cut=>x.name) ha'
 have hs:=qnc (er:=qec s) hL hn ha'
 by_cases h6:qdb s l[i].dredger<0
 ·rw[decide_eq_false (by omega)]at h2
  repeat'(first|((with_reducible apply qb1);rfl;rfl;rfl;rfl;(exact hf);rfl;rfl)|refine zS ?_|refine zA ?_|refine zF h2 ?_|refine zF h1 ?_|(refine zI ?_;intro hlt)|(refine zC ?_ ?_<;>first|intro h|simp)|refine zE ?_|fail)
  all_goals first
   |exact absurd hL (by omega)
   |exact qaV hL hC (hs.trans (qsU h6)) (by decide)
   |trace_state
 rw[decide_eq_true (by omega)]at h2
 repeat'(first|((with_reducible apply qb1);rfl;rfl;rfl;rfl;(exact hf);rfl;rfl)|((with_reducible (show evG _ _ (.region 18 _ _) _ _));(with_reducible apply qbM))|((with_reducible apply qeq);rfl;rfl;rfl;rfl;rfl;rfl;(exact hf);rfl)|(with_reducible apply qf2)|(with_reducible apply qcY)|(with_reducible apply qd6)|((with_reducible apply qae);rfl;(exact qml _ _ _);rfl)|refine zS ?_|refine zA ?_|refine zF h2 ?_|refine zF h1 ?_|(refine zI ?_;intro hlt)|(refine zC ?_ ?_<;>first|intro h|simp)|(refine zG ?_ ?_<;>first|intro h|simp)|refine zE ?_|fail)
 all_goals first
  |exact absurd hL (by omega)
  |exact qaV hL hC (hs.trans (qsV h6 (by omega))) (by decide)
  |exact qaV hL hC (hs.trans (qpJ h6 (by omega) (by omega))) (by decide)
  |(refine⟨hL,qaQ hC (hs.trans (qsW h6 (by omega) (by omega))),?_⟩
    show qcr _ ⟨[(5,.om 0),(16,.int .i64 (i+1:Nat)),(14,.sl (l.map encCut)),(15,.int .i64 l.length),(2,.op 1 0 0)],[(0,⟨0,true,(l.take (i+1)).map fun x=>[.str x.name,.bool true]⟩),(1,⟨12,true,[encSite s]⟩)],64,104⟩
    rw[List.take_succ_eq_append_getElem hL,List.map_append]
    exact qaa (nx:=64) (k:=0) (ns:=[]) (ks:=[5,16,14,15,2]) [(0,0),(1,1)] rfl (by simp) (by kernel_rfl))
  |trace_state
theorem qpK{s:Site}(h:qda s=0):qa2 s.bed=0:=by
 rw[qfQ]at h
 split at h
 ·assumption
 ·rename_i hh;exact Classical.not_not.1 hh
theorem qdK(s:Site)(h:Sized s)(l:List Cut)(hl:l.length≤9223372036854775807)(hd:s.dreds.length<1000000000000):Contract Tryz.prog 26 [.agg (encSite s),.sl (l.map encCut)] (.ret (.int .i64 (qcy s l))):=by
 have h1:=qfR s h
 by_cases h0:qda s=0
 ·have e:qcy s l=qls s l:=by unfold qcy;rw[if_neg (not_not_intro h0)]
  rw[e]
  rw[h0]at h1
  have h2:=qrg s (qf4 (qpK h0)) hd l hl
  refine zT mix Tryz.func26 Tryz.ntmps26 Tryz.results26 rfl rfl rfl ?_;simp only[qab,Nat.reduceAdd]
  repeat'(first|(with_reducible rfl)|refine zQ ?_|refine zF h1 ?_|refine zF h2 ?_|refine zE ?_|fail)
  all_goals first|(exfalso;simp at *;done)|trace_state
 ·have e:qcy s l=qda s:=by unfold qcy;rw[if_pos h0]
  rw[e]
  generalize qda s=q at*
  refine zT mix Tryz.func26 Tryz.ntmps26 Tryz.results26 rfl rfl rfl ?_;simp only[qab,Nat.reduceAdd]
  repeat'(first|(with_reducible rfl)|refine zQ ?_|refine zF h1 ?_|(refine zC ?_ ?_<;>first|intro h|simp)|refine zE ?_|fail)
  all_goals first|rfl|(exfalso;omega)|trace_state
theorem qfS(s:Site)(h:Sized s)(l:List Cut)(hl:l.length≤9223372036854775807)(hd:s.dreds.length<1000000000000):Contract Tryz.prog 27 [.agg (encSite s),.sl (l.map encCut)] (.ret (.int .i64 (qcy s l))):=by
 have h1:=qhF s h
 by_cases h0:qda s=0
 rotate_left
 ·have e:qcy s l=qda s:=by unfold qcy;rw[if_pos h0]
  rw[e]
  generalize qda s=q at*
  refine zT mix Tryz.func27 Tryz.ntmps27 Tryz.results27 rfl rfl rfl ?_;simp only[qab,Nat.reduceAdd]
  repeat'(first|(with_reducible rfl)|refine zQ ?_|refine zF h1 ?_|(refine zC ?_ ?_<;>first|intro h|simp)|refine zE ?_|fail)
  all_goals first|rfl|(exfalso;omega)|trace_state
 have hbd:=(qf4 (qpK h0)).bds
 have e:qcy s l=qls s l:=by unfold qcy;rw[if_neg (not_not_intro h0)]
 rw[e]
 rw[h0]at h1
 refine zT mix Tryz.func27 Tryz.ntmps27 Tryz.results27 rfl rfl rfl ?_;simp only[qab,Nat.reduceAdd]
 repeat'(first|refine zQ ?_|refine zF h1 ?_|(refine zC ?_ ?_<;>first|intro h|simp)|refine zE ?_|fail)
 all_goals first
  |(exfalso;simp at *;done)
  |exact qxA (by omega)
  |skip
 rw[qxB (by omega)]
 refine qad l.length (fun i=>⟨[(6,.int .i64 i),(1,.sl (l.map encCut)),(2,.op 0 0 0)],[(0,⟨12,true,[encSite s]⟩)],32,101⟩) (fun i=>∀j,j<i→qcf (·.name) (qec s) l j=0) (qaa (nx:=32) (k:=0) (ns:=[]) (ks:=[6,1,2]) [(0,0)] rfl (by simp) (by kernel_rfl)) (by omega) ?_
 intro i hi hC
 by_cases hL:i<l.length
 rotate_left
 ·repeat'(first|refine zQ ?_|(refine zI ?_;intro hlt)|(refine zC ?_ ?_<;>first|intro h|simp)|refine zE ?_|fail)
  all_goals first
   |exact absurd hL (by omega)
   |exact(qaC fun j hj=>hC j (by omega)).symm
   |trace_state
 have h1:=c83 l[i].name
 by_cases hn:qaZ l[i].name=true
 rotate_left
 ·have hn':qaZ l[i].name=false:=by simpa using hn
  rw[hn']at h1
  repeat'(first|refine zQ ?_|refine zF h1 ?_|(refine zI ?_;intro hlt)|(refine zC ?_ ?_<;>first|intro h|simp)|refine zE ?_|fail)
  all_goals first
   |exact absurd hL (by omega)
   |exact qaV hL hC (qna hL hn') (by decide)
   |trace_state
 rw[hn]at h1
 repeat'(first|refine zQ ?_|refine zF h1 ?_|(refine zI ?_;intro hlt)|(refine zC ?_ ?_<;>first|intro h|simp)|refine zE ?_|fail)
 all_goals try exact absurd hL (by omega)
 refine qad i (fun k=>⟨[(8,.int .i64 k),(6,.int .i64 i),(1,.sl (l.map encCut)),(2,.op 0 0 0),(7,.op 1 0 0)],[(0,⟨12,true,[encSite s]⟩),(1,⟨8,true,[encCut l[i]]⟩)],64,101⟩) (fun k=>∀j (hj:j<k),¬(l[j]?.map (·.name)=some l[i].name)) (qaa (nx:=64) (k:=0) (ns:=[]) (ks:=[8,6,1,2,7]) [(0,0),(288,1)] rfl (by simp) (by kernel_rfl)) (by omega) ?_
 intro k hk hK
 by_cases hlk:k<i
 ·have hkl:k<l.length:=by omega
  repeat'(first|refine zQ ?_|(refine zI ?_;intro hlt)|(refine zC ?_ ?_<;>first|intro h|simp)|((with_reducible apply qaz);rfl;rfl)|refine zE ?_|fail)
  all_goals try simp only[Int.toNat_natCast]at*
  all_goals first
   |exact absurd hlk (by omega)
   |exact qaV hL hC (qnb hL hn (qin hlk hkl (by assumption))) (by decide)
   |(refine⟨by omega,qgu hkl hK (by assumption),qaa (nx:=64) (k:=0) (ns:=[]) (ks:=[8,6,1,2,7]) [(0,0),(1,1)] rfl (by simp) (by kernel_rfl)⟩)
   |trace_state
 obtain rfl:k=i:=by omega
 have hs:=qnc (er:=qec s) hL hn (qlu hK)
 have h2:=qch s hd l[k].dredger
 repeat'(first|((with_reducible (show qap _ (.call _) _ _ _ _));first|((with_reducible apply qae);rfl;(exact c48 _);rfl)|((with_reducible apply qae);rfl;(exact c38 _ _ _);rfl))|refine zQ ?_|refine zF h2 ?_|(refine zI ?_;intro hlt)|(refine zC ?_ ?_<;>first|intro h|simp)|(refine zG ?_ ?_<;>first|intro h|simp)|((with_reducible apply qaz);rfl;rfl)|refine zE ?_|fail)
 all_goals try simp only[qhQ,decide_eq_true_eq,decide_eq_false_iff_not]at*
 all_goals first
  |exact absurd (show k<k by omega) hlk
  |exact qaV hL hC (hs.trans (qsU (by assumption))) (by decide)
  |exact qaV hL hC (hs.trans (qsV (by assumption) (by omega))) (by decide)
  |exact qaV hL hC (hs.trans (qpJ (by assumption) (by omega) (by omega))) (by decide)
  |exact⟨hL,qaQ hC (hs.trans (qsW (by assumption) (by omega) (by omega))),qaa (nx:=32) (k:=0) (ns:=[]) (ks:=[6,1,2]) [(0,0)] rfl (by simp) (by kernel_rfl)⟩
  |trace_state
theorem qz3{s:Site}{b:Grid}(h:¬(s.bed.x=b.x∧s.bed.y=b.y∧s.bed.side=b.side∧s.bed.cols=b.cols∧s.bed.rows=b.rows)):qbR s.bed b=false:=decide_eq_false h
theorem qxC{s:Site}{b:Grid}(h:s.bed.x=b.x∧s.bed.y=b.y∧s.bed.side=b.side∧s.bed.cols=b.cols∧s.bed.rows=b.rows):qbR s.bed b=true:=decide_eq_true h
def qG2(s:Site)(b:Grid):Int:=if qa2 b≠0 then qa2 b else if qbR s.bed b=true then 0 else 10
theorem qu4(s:Site)(b:Grid)(hb:b.levels.length<1000000000000):Contract Tryz.prog 181 [.agg (encSite s),.agg (qag b)] (.ret (.int .i64 (qG2 s b))):=by
 have h1:=qD6 b hb
 unfold qG2
 generalize qa2 b=q at*
 by_cases h0:q=0
 ·subst h0
  refine zT mix Tryz.func181 Tryz.ntmps181 Tryz.results181 rfl rfl rfl ?_;simp only[qab,Nat.reduceAdd]
  repeat'(first|refine zQ ?_|refine zF h1 ?_|(refine zC ?_ ?_<;>first|intro h|simp)|(refine zG ?_ ?_<;>first|intro h|simp)|refine zE ?_|fail)
  all_goals first
   |(exfalso;simp at *;done)
   |(rw[if_neg (by simp),if_neg (by rw[qz3 (by omega)];simp)];done)
   |(rw[if_neg (by simp),if_pos (qxC (by omega))];done)
   |trace_state
 ·rw[if_pos h0]
  refine zT mix Tryz.func181 Tryz.ntmps181 Tryz.results181 rfl rfl rfl ?_;simp only[qab,Nat.reduceAdd]
  repeat'(first|(with_reducible rfl)|refine zQ ?_|refine zF h1 ?_|(refine zC ?_ ?_<;>first|intro h|simp)|(refine zG ?_ ?_<;>first|intro h|simp)|refine zE ?_|fail)
  all_goals first|rfl|(exfalso;omega)|trace_state
theorem qBw(s:Site)(b:Grid)(c:Cut):onE s b c=if qcy s [c]≠0 then qcy s [c]else qG2 s b:=rfl
theorem qpL(s:Site)(h:Sized s)(hd:s.dreds.length<1000000000000)(b:Grid)(hb:b.levels.length<1000000000000)(c:Cut):Contract Tryz.prog 106 [.agg (encSite s),.agg (qag b),.agg (encCut c)] (.ret (.int .i64 (onE s b c))):=by
 have h1:Contract Tryz.prog 26 [.agg (encSite s),.sl [encCut c]] (.ret (.int .i64 (qcy s [c]))):=qdK s h [c] (by simp) hd
 have h2:=qu4 s b hb
 rw[qBw]
 generalize qcy s [c]=q at*
 by_cases h0:q=0
 ·subst h0
  refine zT mix Tryz.func106 Tryz.ntmps106 Tryz.results106 rfl rfl rfl ?_;simp only[qab,Nat.reduceAdd]
  repeat'(first|refine zQ ?_|refine zF h1 ?_|refine zF h2 ?_|refine zE ?_|fail)
  all_goals first|(exfalso;simp at *;done)|(rw[if_neg (by simp)];done)|trace_state
 ·rw[if_pos h0]
  refine zT mix Tryz.func106 Tryz.ntmps106 Tryz.results106 rfl rfl rfl ?_;simp only[qab,Nat.reduceAdd]
  repeat'(first|(with_reducible rfl)|refine zQ ?_|refine zF h1 ?_|(refine zC ?_ ?_<;>first|intro h|simp)|refine zE ?_|fail)
  all_goals first|rfl|(exfalso;omega)|trace_state
end Go.Pv.Soil

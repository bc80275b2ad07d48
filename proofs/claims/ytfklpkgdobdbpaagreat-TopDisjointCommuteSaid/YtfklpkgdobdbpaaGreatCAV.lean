import Derived.Test.YtfklpkgdobdbpaaGreatCAU
/- Part of the proofs over YtfklpkgdobdbpaaGreat: N10. -/
set_option linter.unusedVariables false
set_option linter.unusedSimpArgs false
set_option linter.unnecessarySimpa false
open Go Go.Proofs Go.Pv
set_option maxHeartbeats 8000000
set_option maxRecDepth 100000
set_option linter.unusedSimpArgs false
set_option linter.unusedVariables false
namespace Go.Pv.Soil
def qm7:Dred:=⟨.empty,0,0,0,0,0,0,[]⟩
def dredOf(s:Site)(n:ByteArray):Dred:=match s.dreds[(qcT s n).toNat]? with
 |some d=>if 0≤qcT s n then d else qm7
 |none=>qm7
theorem qnM{α:Type}{p:α→Bool}{l:List α}(h:0≤qci p l):(qci p l).toNat<l.length:=by
 unfold qci at h ⊢
 cases hf:l.findIdx? p with
 |none=>rw[hf]at h;simp at h
 |some i=>exact(List.findIdx?_eq_some_iff_getElem.1 hf).1
theorem qcc{s:Site}{n:ByteArray}(h:0≤qcT s n):∃hk:(qcT s n).toNat<s.dreds.length,dredOf s n=s.dreds[(qcT s n).toNat]:=by
 have hk:(qcT s n).toNat<s.dreds.length:=qnM h
 refine⟨hk,?_⟩
 unfold dredOf
 rw[List.getElem?_eq_getElem hk]
 exact if_pos h
theorem qvF{s:Site}{n:ByteArray}(h:qcT s n<0):dredOf s n=qm7:=by
 unfold dredOf
 split
 ·rw[if_neg (by omega)]
 ·rfl
theorem qtg(d:Dred)(n:ByteArray):Contract Tryz.prog 240 [.agg (encDred d),.ptr [.str n]] (.ret (.bool (decide (d.name=n)))):=by
 refine zT mix Tryz.func240 Tryz.ntmps240 Tryz.results240 rfl rfl rfl ?_;simp only[qac,Nat.reduceAdd]
 repeat'(first|(with_reducible rfl)|refine zQ ?_|((with_reducible apply qaG);rfl;rfl)|refine zE ?_|fail)
theorem qkO(s:Site)(h:s.dreds.length<1000000000000)(n:ByteArray):Contract Tryz.prog 180 [.agg (encSite s),.str n] (.ret (.tup [.agg (encDred (dredOf s n)),.bool (decide (0≤qcT s n))])):=by
 have h1:=qx1 s.dreds h 240 [.ptr [.str n]] (fun _ _=>rfl) rfl (fun d=>decide (d.name=n)) fun d _=>qtg d n
 by_cases h0:0≤qcT s n
 ·obtain⟨hk,e⟩:=qcc h0
  rw[decide_eq_true h0,e]
  obtain⟨k,ek⟩:=Int.eq_ofNat_of_zero_le h0
  have hkk:(qcT s n).toNat=k:=by omega
  have h1':Contract Tryz.prog 239 [.sl (s.dreds.map encDred),.clo (.func 240) [] [.ptr [.str n]]] (.ret (.int .i64 (k:Int))):=by rw[←ek];exact h1
  simp only[hkk]at*
  refine zT mix Tryz.func180 Tryz.ntmps180 Tryz.results180 rfl rfl rfl ?_;simp only[qac,Nat.reduceAdd]
  repeat'(first|refine zQ ?_|refine zF h1' ?_|(refine zI ?_;intro hlt)|fail)
  all_goals first
   |(exfalso;omega)
   |exact qcs rfl rfl rfl rfl
   |trace_state
 ·rw[decide_eq_false h0,qvF (by omega)]
  have h1':Contract Tryz.prog 239 [.sl (s.dreds.map encDred),.clo (.func 240) [] [.ptr [.str n]]] (.ret (.int .i64 (qcT s n))):=h1
  generalize qcT s n=q at*
  refine zT mix Tryz.func180 Tryz.ntmps180 Tryz.results180 rfl rfl rfl ?_;simp only[qac,Nat.reduceAdd]
  repeat'(first|refine zQ ?_|refine zF h1' ?_|(refine zI ?_;intro hlt)|(refine zC ?_ ?_<;>first|intro h|simp)|fail)
  all_goals first
   |(exfalso;omega)
   |exact qcs rfl rfl rfl rfl
   |trace_state
theorem qb4(s:Site)(h:s.dreds.length<1000000000000)(nm:ByteArray):Contract Tryz.prog 104 [.agg (encSite s),.str nm] (.ret (.int .i64 (qcT s nm))):=by
 refine zT mix Tryz.func104 Tryz.ntmps104 Tryz.results104 rfl rfl rfl ?_;simp only[qac,Nat.reduceAdd]
 repeat'(first|refine zQ ?_|fail)
 refine qaf s.dreds.length (fun i=>⟨[(5,.int .i64 i),(2,.op 0 0 0),(1,.str nm)],[(0,⟨12,true,[encSite s]⟩)],32,22⟩) (fun i=>∀j (hj:j<i) (hj':j<s.dreds.length),decide (s.dreds[j].name=nm)=false) (qaa (nx:=32) (k:=0) (ns:=[]) (ks:=[5,2,1]) [(0,0)] rfl (by simp) (by kernel_rfl)) (by omega) ?_
 intro i hi hC
 by_cases hL:i<s.dreds.length
 ·repeat'(first|refine zQ ?_|(refine zI ?_;intro hlt)|(refine zC ?_ ?_<;>first|intro h|simp)|((with_reducible apply qaG);rfl;rfl)|refine zE ?_|fail)
  all_goals try simp only[Int.toNat_natCast]at*
  all_goals first
   |exact absurd hL (by omega)
   |exact(qaY hL (decide_eq_true (by assumption)) fun j hj=>hC j hj (by omega)).symm
   |(refine⟨by omega,fun j hj hj'=>?_,qaa (nx:=32) (k:=0) (ns:=[]) (ks:=[5,2,1]) [(0,0)] rfl (by simp) (by kernel_rfl)⟩
     rcases Nat.lt_succ_iff_lt_or_eq.1 hj with h'|rfl
     ·exact hC j h' hj'
     ·exact decide_eq_false (by assumption))
   |trace_state
 ·repeat'(first|refine zQ ?_|(refine zI ?_;intro hlt)|(refine zC ?_ ?_<;>first|intro h|simp)|((with_reducible apply qaG);rfl;rfl)|refine zE ?_|fail)
  all_goals first
   |exact absurd hL (by omega)
   |(refine(qa7 fun x hx=>?_).symm
     obtain⟨j,hj,rfl⟩:=List.mem_iff_getElem.1 hx
     exact hC j (by omega) hj)
   |trace_state
theorem qvG{s:Site}{l:List Cut}(h:40<l.length):8=qlp s l:=by unfold qlp;rw[if_pos h]
theorem qvH{s:Site}{l:List Cut}(h:¬40<l.length):qlp s l=qha (·.name) (qdV s) l:=by unfold qlp;rw[if_neg h]
theorem qrs{s:Site}{c:Cut}(h:qcT s c.dredger<0):qdV s c=6:=by unfold qdV;rw[if_pos h]
theorem qrt{s:Site}{c:Cut}(h:¬qcT s c.dredger<0)(h2:¬((-20000≤c.level∧c.level≤20000)∧(0≤c.start∧c.start≤1000000))):qdV s c=2:=by
 unfold qdV;rw[if_neg h,if_pos]
 rwa[qhp,decide_eq_true_eq]
theorem qoE{s:Site}{c:Cut}(h:¬qcT s c.dredger<0)(h2:(-20000≤c.level∧c.level≤20000)∧(0≤c.start∧c.start≤1000000))(h3:¬((0≤c.col∧c.col≤s.bed.cols-1)∧(0≤c.row∧c.row≤s.bed.rows-1)∧(1≤c.cols∧c.cols≤s.bed.cols-c.col)∧(1≤c.rows∧c.rows≤s.bed.rows-c.row))):qdV s c=10:=by
 unfold qdV;rw[if_neg h,if_neg,if_pos h3]
 rw[qhp,decide_eq_true_eq];exact not_not_intro h2
theorem qru{s:Site}{c:Cut}(h:¬qcT s c.dredger<0)(h2:(-20000≤c.level∧c.level≤20000)∧(0≤c.start∧c.start≤1000000))(h3:(0≤c.col∧c.col≤s.bed.cols-1)∧(0≤c.row∧c.row≤s.bed.rows-1)∧(1≤c.cols∧c.cols≤s.bed.cols-c.col)∧(1≤c.rows∧c.rows≤s.bed.rows-c.row)):qdV s c=0:=by
 unfold qdV;rw[if_neg h,if_neg,if_neg (not_not_intro h3)]
 rw[qhp,decide_eq_true_eq];exact not_not_intro h2
theorem qp2(s:Site)(hb:OkGrid s.bed)(hd:s.dreds.length<1000000000000)(l:List Cut)(hl:l.length≤9223372036854775807):Contract Tryz.prog 103 [.agg (encSite s),.sl (l.map encCut)] (.ret (.int .i64 (qlp s l))):=by
 have hbd:=hb.bds
 refine zT mix Tryz.func103 Tryz.ntmps103 Tryz.results103 rfl rfl rfl ?_;simp only[qac,Nat.reduceAdd]
 repeat'(first|((with_reducible (show evG _ _ (.region 3 _ _) _ _));(with_reducible apply qcb))|((with_reducible apply qek);rfl)|(with_reducible apply qgK)|(with_reducible apply qdD)|(with_reducible apply qeH)|refine zS ?_|refine zA ?_|(refine zC ?_ ?_<;>first|intro h|simp)|refine zE ?_|fail)
 ·exact qvG (by omega)
 rw[qvH (by omega)]
 refine qaf l.length (fun i=>⟨[(5,.om 0),(16,.int .i64 i),(14,.sl (l.map encCut)),(15,.int .i64 l.length),(2,.op 1 0 0)],[(0,⟨0,true,(l.take i).map fun x=>[.str x.name,.bool true]⟩),(1,⟨12,true,[encSite s]⟩)],64,104⟩) (fun i=>∀j,j<i→qce (·.name) (qdV s) l j=0) (qaa (nx:=64) (k:=0) (ns:=[]) (ks:=[5,16,14,15,2]) [(160,0),(0,1)] rfl (by simp) (by kernel_rfl)) (by omega) ?_
 intro i hi hC
 by_cases hL:i<l.length
 rotate_left
 ·repeat'(first|refine zQ ?_|(refine zI ?_;intro hlt)|(refine zC ?_ ?_<;>first|intro h|simp)|refine zE ?_|fail)
  all_goals first
   |exact absurd hL (by omega)
   |exact(qaB fun j hj=>hC j (by omega)).symm
   |trace_state
 have h1:=qox l[i].name
 have h2:=qkO s hd l[i].dredger
 generalize dredOf s l[i].dredger=dr at h2
 by_cases hn:qaS l[i].name=true
 rotate_left
 ·have hn':qaS l[i].name=false:=by simpa using hn
  rw[hn']at h1
  repeat'(first|refine zQ ?_|refine zF h2 ?_|refine zF h1 ?_|(refine zI ?_;intro hlt)|(refine zC ?_ ?_<;>first|intro h|simp)|refine zE ?_|fail)
  all_goals first
   |exact absurd hL (by omega)
   |exact qaP hL hC (ql6 hL hn') (by decide)
   |trace_state
 rw[hn]at h1
 by_cases ha:((l.take i).any fun y=>decide (y.name=l[i].name))=true
 ·have hf:=qhS (nm:=fun x:Cut=>x.name) ha
  repeat'(first|((with_reducible apply qcl);rfl;rfl;rfl;rfl;(exact hf);rfl;rfl)|refine zS ?_|refine zA ?_|refine zF h2 ?_|refine zF h1 ?_|(refine zI ?_;intro hlt)|(refine zC ?_ ?_<;>first|intro h|simp)|refine zE ?_|fail)
  all_goals first
   |exact absurd hL (by omega)
   |exact qaP hL hC (ql7 hL hn ha) (by decide)
   |trace_state
 have ha':((l.take i).any fun y=>decide (y.name=l[i].name))=false:=by simpa using ha
 have hf:=qkI (nm:=fun x:Cut=>x.name) ha'
 have hs:=ql8 (er:=qdV s) hL hn ha'
 by_cases h6:qcT s l[i].dredger<0
 ·rw[decide_eq_false (by omega)]at h2
  repeat'(first|((with_reducible apply qcl);rfl;rfl;rfl;rfl;(exact hf);rfl;rfl)|refine zS ?_|refine zA ?_|refine zF h2 ?_|refine zF h1 ?_|(refine zI ?_;intro hlt)|(refine zC ?_ ?_<;>first|intro h|simp)|refine zE ?_|fail)
  all_goals first
   |exact absurd hL (by omega)
   |exact qaP hL hC (hs.trans (qrs h6)) (by decide)
   |trace_state
 rw[decide_eq_true (by omega)]at h2
 repeat'(first|((with_reducible apply qcl);rfl;rfl;rfl;rfl;(exact hf);rfl;rfl)|((with_reducible (show evG _ _ (.region 18 _ _) _ _));(with_reducible apply qcb))|((with_reducible apply qeU);rfl;rfl;rfl;rfl;rfl;rfl;(exact hf);rfl)|(with_reducible apply qgK)|(with_reducible apply qdD)|(with_reducible apply qeH)|((with_reducible apply qad);rfl;(exact qlq _ _ _);rfl)|refine zS ?_|refine zA ?_|refine zF h2 ?_|refine zF h1 ?_|(refine zI ?_;intro hlt)|(refine zC ?_ ?_<;>first|intro h|simp)|(refine zG ?_ ?_<;>first|intro h|simp)|refine zE ?_|fail)
 all_goals first
  |exact absurd hL (by omega)
  |exact qaP hL hC (hs.trans (qrt h6 (by omega))) (by decide)
  |exact qaP hL hC (hs.trans (qoE h6 (by omega) (by omega))) (by decide)
  |(refine⟨hL,qaJ hC (hs.trans (qru h6 (by omega) (by omega))),?_⟩
    show qck _ ⟨[(5,.om 0),(16,.int .i64 (i+1:Nat)),(14,.sl (l.map encCut)),(15,.int .i64 l.length),(2,.op 1 0 0)],[(0,⟨0,true,(l.take (i+1)).map fun x=>[.str x.name,.bool true]⟩),(1,⟨12,true,[encSite s]⟩)],64,104⟩
    rw[List.take_succ_eq_append_getElem hL,List.map_append]
    exact qaa (nx:=64) (k:=0) (ns:=[]) (ks:=[5,16,14,15,2]) [(0,0),(1,1)] rfl (by simp) (by kernel_rfl))
  |trace_state
theorem qoF{s:Site}(h:qfn s=0):qa8 s.bed=0:=by
 rw[qhX]at h
 split at h
 ·assumption
 ·rename_i hh;exact Classical.not_not.1 hh
theorem qcm(s:Site)(h:Sized s)(l:List Cut)(hl:l.length≤9223372036854775807)(hd:s.dreds.length<1000000000000):Contract Tryz.prog 26 [.agg (encSite s),.sl (l.map encCut)] (.ret (.int .i64 (qde s l))):=by
 have h1:=qhh s h
 by_cases h0:qfn s=0
 ·have e:qde s l=qlp s l:=by unfold qde;rw[if_neg (not_not_intro h0)]
  rw[e]
  rw[h0]at h1
  have h2:=qp2 s (qfx (qoF h0)) hd l hl
  refine zT mix Tryz.func26 Tryz.ntmps26 Tryz.results26 rfl rfl rfl ?_;simp only[qac,Nat.reduceAdd]
  repeat'(first|(with_reducible rfl)|refine zQ ?_|refine zF h1 ?_|refine zF h2 ?_|refine zE ?_|fail)
  all_goals first|(exfalso;simp at *;done)|trace_state
 ·have e:qde s l=qfn s:=by unfold qde;rw[if_pos h0]
  rw[e]
  generalize qfn s=q at*
  refine zT mix Tryz.func26 Tryz.ntmps26 Tryz.results26 rfl rfl rfl ?_;simp only[qac,Nat.reduceAdd]
  repeat'(first|(with_reducible rfl)|refine zQ ?_|refine zF h1 ?_|(refine zC ?_ ?_<;>first|intro h|simp)|refine zE ?_|fail)
  all_goals first|rfl|(exfalso;omega)|trace_state
theorem qhi(s:Site)(h:Sized s)(l:List Cut)(hl:l.length≤9223372036854775807)(hd:s.dreds.length<1000000000000):Contract Tryz.prog 27 [.agg (encSite s),.sl (l.map encCut)] (.ret (.int .i64 (qde s l))):=by
 have h1:=qkN s h
 by_cases h0:qfn s=0
 rotate_left
 ·have e:qde s l=qfn s:=by unfold qde;rw[if_pos h0]
  rw[e]
  generalize qfn s=q at*
  refine zT mix Tryz.func27 Tryz.ntmps27 Tryz.results27 rfl rfl rfl ?_;simp only[qac,Nat.reduceAdd]
  repeat'(first|(with_reducible rfl)|refine zQ ?_|refine zF h1 ?_|(refine zC ?_ ?_<;>first|intro h|simp)|refine zE ?_|fail)
  all_goals first|rfl|(exfalso;omega)|trace_state
 have hbd:=(qfx (qoF h0)).bds
 have e:qde s l=qlp s l:=by unfold qde;rw[if_neg (not_not_intro h0)]
 rw[e]
 rw[h0]at h1
 refine zT mix Tryz.func27 Tryz.ntmps27 Tryz.results27 rfl rfl rfl ?_;simp only[qac,Nat.reduceAdd]
 repeat'(first|refine zQ ?_|refine zF h1 ?_|(refine zC ?_ ?_<;>first|intro h|simp)|refine zE ?_|fail)
 all_goals first
  |(exfalso;simp at *;done)
  |exact qvG (by omega)
  |skip
 rw[qvH (by omega)]
 refine qaf l.length (fun i=>⟨[(6,.int .i64 i),(1,.sl (l.map encCut)),(2,.op 0 0 0)],[(0,⟨12,true,[encSite s]⟩)],32,101⟩) (fun i=>∀j,j<i→qce (·.name) (qdV s) l j=0) (qaa (nx:=32) (k:=0) (ns:=[]) (ks:=[6,1,2]) [(0,0)] rfl (by simp) (by kernel_rfl)) (by omega) ?_
 intro i hi hC
 by_cases hL:i<l.length
 rotate_left
 ·repeat'(first|refine zQ ?_|(refine zI ?_;intro hlt)|(refine zC ?_ ?_<;>first|intro h|simp)|refine zE ?_|fail)
  all_goals first
   |exact absurd hL (by omega)
   |exact(qaB fun j hj=>hC j (by omega)).symm
   |trace_state
 have h1:=c83 l[i].name
 by_cases hn:qaS l[i].name=true
 rotate_left
 ·have hn':qaS l[i].name=false:=by simpa using hn
  rw[hn']at h1
  repeat'(first|refine zQ ?_|refine zF h1 ?_|(refine zI ?_;intro hlt)|(refine zC ?_ ?_<;>first|intro h|simp)|refine zE ?_|fail)
  all_goals first
   |exact absurd hL (by omega)
   |exact qaP hL hC (ql6 hL hn') (by decide)
   |trace_state
 rw[hn]at h1
 repeat'(first|refine zQ ?_|refine zF h1 ?_|(refine zI ?_;intro hlt)|(refine zC ?_ ?_<;>first|intro h|simp)|refine zE ?_|fail)
 all_goals try exact absurd hL (by omega)
 refine qaf i (fun k=>⟨[(8,.int .i64 k),(6,.int .i64 i),(1,.sl (l.map encCut)),(2,.op 0 0 0),(7,.op 1 0 0)],[(0,⟨12,true,[encSite s]⟩),(1,⟨8,true,[encCut l[i]]⟩)],64,101⟩) (fun k=>∀j (hj:j<k),¬(l[j]?.map (·.name)=some l[i].name)) (qaa (nx:=64) (k:=0) (ns:=[]) (ks:=[8,6,1,2,7]) [(0,0),(288,1)] rfl (by simp) (by kernel_rfl)) (by omega) ?_
 intro k hk hK
 by_cases hlk:k<i
 ·have hkl:k<l.length:=by omega
  repeat'(first|refine zQ ?_|(refine zI ?_;intro hlt)|(refine zC ?_ ?_<;>first|intro h|simp)|((with_reducible apply qaG);rfl;rfl)|refine zE ?_|fail)
  all_goals try simp only[Int.toNat_natCast]at*
  all_goals first
   |exact absurd hlk (by omega)
   |exact qaP hL hC (ql7 hL hn (qhT hlk hkl (by assumption))) (by decide)
   |(refine⟨by omega,qf0 hkl hK (by assumption),qaa (nx:=64) (k:=0) (ns:=[]) (ks:=[8,6,1,2,7]) [(0,0),(1,1)] rfl (by simp) (by kernel_rfl)⟩)
   |trace_state
 obtain rfl:k=i:=by omega
 have hs:=ql8 (er:=qdV s) hL hn (qkJ hK)
 have h2:=qb4 s hd l[k].dredger
 repeat'(first|((with_reducible (show qan _ (.call _) _ _ _ _));first|((with_reducible apply qad);rfl;(exact c48 _);rfl)|((with_reducible apply qad);rfl;(exact c38 _ _ _);rfl))|refine zQ ?_|refine zF h2 ?_|(refine zI ?_;intro hlt)|(refine zC ?_ ?_<;>first|intro h|simp)|(refine zG ?_ ?_<;>first|intro h|simp)|((with_reducible apply qaG);rfl;rfl)|refine zE ?_|fail)
 all_goals try simp only[qhp,decide_eq_true_eq,decide_eq_false_iff_not]at*
 all_goals first
  |exact absurd (show k<k by omega) hlk
  |exact qaP hL hC (hs.trans (qrs (by assumption))) (by decide)
  |exact qaP hL hC (hs.trans (qrt (by assumption) (by omega))) (by decide)
  |exact qaP hL hC (hs.trans (qoE (by assumption) (by omega) (by omega))) (by decide)
  |exact⟨hL,qaJ hC (hs.trans (qru (by assumption) (by omega) (by omega))),qaa (nx:=32) (k:=0) (ns:=[]) (ks:=[6,1,2]) [(0,0)] rfl (by simp) (by kernel_rfl)⟩
  |trace_state
theorem qya{s:Site}{b:Grid}(h:¬(s.bed.x=b.x∧s.bed.y=b.y∧s.bed.side=b.side∧s.bed.cols=b.cols∧s.bed.rows=b.rows)):qbX s.bed b=false:=decide_eq_false h
theorem qvI{s:Site}{b:Grid}(h:s.bed.x=b.x∧s.bed.y=b.y∧s.bed.side=b.side∧s.bed.cols=b.cols∧s.bed.rows=b.rows):qbX s.bed b=true:=decide_eq_true h
def qCV(s:Site)(b:Grid):Int:=if qa8 b≠0 then qa8 b else if qbX s.bed b=true then 0 else 10
theorem qth(s:Site)(b:Grid)(hb:b.levels.length<1000000000000):Contract Tryz.prog 181 [.agg (encSite s),.agg (encGrid b)] (.ret (.int .i64 (qCV s b))):=by
 have h1:=qCT b hb
 unfold qCV
 generalize qa8 b=q at*
 by_cases h0:q=0
 ·subst h0
  refine zT mix Tryz.func181 Tryz.ntmps181 Tryz.results181 rfl rfl rfl ?_;simp only[qac,Nat.reduceAdd]
  repeat'(first|refine zQ ?_|refine zF h1 ?_|(refine zC ?_ ?_<;>first|intro h|simp)|(refine zG ?_ ?_<;>first|intro h|simp)|refine zE ?_|fail)
  all_goals first
   |(exfalso;simp at *;done)
   |(rw[if_neg (by simp),if_neg (by rw[qya (by omega)];simp)];done)
   |(rw[if_neg (by simp),if_pos (qvI (by omega))];done)
   |trace_state
 ·rw[if_pos h0]
  refine zT mix Tryz.func181 Tryz.ntmps181 Tryz.results181 rfl rfl rfl ?_;simp only[qac,Nat.reduceAdd]
  repeat'(first|(with_reducible rfl)|refine zQ ?_|refine zF h1 ?_|(refine zC ?_ ?_<;>first|intro h|simp)|(refine zG ?_ ?_<;>first|intro h|simp)|refine zE ?_|fail)
  all_goals first|rfl|(exfalso;omega)|trace_state
theorem qoG(s:Site)(b:Grid)(c:Cut):onE s b c=if qde s [c]≠0 then qde s [c]else qCV s b:=rfl
theorem qf1(s:Site)(h:Sized s)(hd:s.dreds.length<1000000000000)(b:Grid)(hb:b.levels.length<1000000000000)(c:Cut):Contract Tryz.prog 106 [.agg (encSite s),.agg (encGrid b),.agg (encCut c)] (.ret (.int .i64 (onE s b c))):=by
 have h1:Contract Tryz.prog 26 [.agg (encSite s),.sl [encCut c]] (.ret (.int .i64 (qde s [c]))):=qcm s h [c] (by simp) hd
 have h2:=qth s b hb
 rw[qoG]
 generalize qde s [c]=q at*
 by_cases h0:q=0
 ·subst h0
  refine zT mix Tryz.func106 Tryz.ntmps106 Tryz.results106 rfl rfl rfl ?_;simp only[qac,Nat.reduceAdd]
  repeat'(first|refine zQ ?_|refine zF h1 ?_|refine zF h2 ?_|refine zE ?_|fail)
  all_goals first|(exfalso;simp at *;done)|(rw[if_neg (by simp)];done)|trace_state
 ·rw[if_pos h0]
  refine zT mix Tryz.func106 Tryz.ntmps106 Tryz.results106 rfl rfl rfl ?_;simp only[qac,Nat.reduceAdd]
  repeat'(first|(with_reducible rfl)|refine zQ ?_|refine zF h1 ?_|(refine zC ?_ ?_<;>first|intro h|simp)|refine zE ?_|fail)
  all_goals first|rfl|(exfalso;omega)|trace_state
theorem qoH(s:Site)(h:Sized s)(hd:s.dreds.length<1000000000000)(b:Grid)(hb:b.levels.length<1000000000000)(c:Cut):Contract Tryz.prog 29 [.agg (encSite s),.agg (encGrid b),.agg (encCut c)] (.ret (.int .i64 (onE s b c))):=by
 have h1:Contract Tryz.prog 27 [.agg (encSite s),.sl [encCut c]] (.ret (.int .i64 (qde s [c]))):=qhi s h [c] (by simp) hd
 have h2:=c28 b hb
 have h3:=c40 s.bed b
 rw[qoG]
 unfold qCV
 generalize qde s [c]=q at*
 generalize qa8 b=q2 at*
 generalize qbX s.bed b=q3 at*
 by_cases h0:q=0
 ·subst h0
  refine zT mix Tryz.func29 Tryz.ntmps29 Tryz.results29 rfl rfl rfl ?_;simp only[qac,Nat.reduceAdd]
  repeat'(first|refine zQ ?_|refine zF h1 ?_|refine zF h2 ?_|refine zF h3 ?_|(refine zC ?_ ?_<;>first|intro h|simp)|refine zE ?_|fail)
  all_goals first|(exfalso;simp at *;done)|(simp[*];done)|(simp_all;done)|trace_state
 ·rw[if_pos h0]
  refine zT mix Tryz.func29 Tryz.ntmps29 Tryz.results29 rfl rfl rfl ?_;simp only[qac,Nat.reduceAdd]
  repeat'(first|(with_reducible rfl)|refine zQ ?_|refine zF h1 ?_|(refine zC ?_ ?_<;>first|intro h|simp)|refine zE ?_|fail)
  all_goals first|rfl|(exfalso;omega)|trace_state
end Go.Pv.Soil

import Derived.Tactics
import Derived.Tactics2
import Derived.Laws.Pointers
import Derived.Test.YtfklpkgdobdbpaaGreatCAR
import Derived.Test.YtfklpkgdobdbpaaGreatCAW
/- Part of the proofs over YtfklpkgdobdbpaaGreat: N9, Q1, Q2, S69, N20, N1, Q4, Q6. -/
set_option linter.unusedVariables false
set_option linter.unusedSimpArgs false
set_option linter.unnecessarySimpa false
open Go Go.Proofs Go.Pv
set_option maxHeartbeats 8000000
set_option maxRecDepth 100000
set_option linter.unusedSimpArgs false
set_option linter.unusedVariables false
namespace Go.Pv.Soil
theorem qod{s:List Soil}{l:List Dred}(h:6<l.length):8=qeE s l:=by unfold qeE;rw[if_pos h]
theorem qsT{s:List Soil}{l:List Dred}(h:¬6<l.length):qeE s l=qcK l.length (qmk s l):=by unfold qeE;rw[if_neg h]
theorem qiq{s:List Soil}{l:List Dred}{i:Nat}(hi:i<l.length):qmk s l i=if qfb l[i]≠0 then qfb l[i]else if((l.take i).any fun h=>decide (h.name=l[i].name))=true then 5 else if(l[i].outs.any fun o=>decide (qbj s o.soil<0))=true then 6 else 0:=by
 simp only[qmk,List.getElem?_eq_getElem hi]
theorem qrf{s:List Soil}{l:List Dred}{i:Nat}(hi:i<l.length)(h:qfb l[i]≠0):qmk s l i=qfb l[i]:=by rw[qiq hi,if_pos h]
theorem qxw{s:List Soil}{l:List Dred}{i:Nat}(hi:i<l.length)(h:qfb l[i]=0)(h2:((l.take i).any fun h=>decide (h.name=l[i].name))=true):qmk s l i=5:=by rw[qiq hi,if_neg (not_not_intro h),if_pos h2]
theorem qxx{s:List Soil}{l:List Dred}{i:Nat}(hi:i<l.length)(h:qfb l[i]=0)(h2:((l.take i).any fun h=>decide (h.name=l[i].name))=false){k:Nat}(hk:k<l[i].outs.length)(h3:qbj s l[i].outs[k].soil<0):qmk s l i=6:=by
 rw[qiq hi,if_neg (not_not_intro h),if_neg (by simp[h2]),if_pos]
 exact List.any_eq_true.2 ⟨_,List.getElem_mem hk,decide_eq_true h3⟩
theorem qxy{s:List Soil}{l:List Dred}{i:Nat}(hi:i<l.length)(h:qfb l[i]=0)(h2:((l.take i).any fun h=>decide (h.name=l[i].name))=false)(h3:∀j (hj:j<l[i].outs.length),¬qbj s l[i].outs[j].soil<0):qmk s l i=0:=by
 rw[qiq hi,if_neg (not_not_intro h),if_neg (by simp[h2]),if_neg]
 rw[Bool.not_eq_true]
 refine List.any_eq_false.2 fun o ho=>?_
 obtain⟨j,hj,rfl⟩:=List.mem_iff_getElem.1 ho
 simpa using h3 j hj
theorem qz1(x:Soil)(o:Outp):Contract Tryz.prog 173 [.agg (qaG x),.ptr (qb3 o)] (.ret (.bool (decide (x.name=o.soil)))):=by
 refine zT mix Tryz.func173 Tryz.ntmps173 Tryz.results173 rfl rfl rfl ?_;simp only[qab,Nat.reduceAdd]
 repeat'(first|(with_reducible rfl)|refine zQ ?_|((with_reducible apply qaz);rfl;rfl)|refine zE ?_|fail)
theorem qz2{s:List Soil}{n:ByteArray}:(s.any fun x=>decide (x.name=n))=decide (0≤qbj s n):=qcZ.symm
theorem qlw(s:Site)(hs:s.ground.soils.length<1000000000000)(hl:s.dreds.length≤9223372036854775807)(hol:∀d∈s.dreds,d.outs.length≤9223372036854775807):Contract Tryz.prog 96 [.agg (encSite s)] (.ret (.int .i64 (qeE s.ground.soils s.dreds))):=by
 refine zT mix Tryz.func96 Tryz.ntmps96 Tryz.results96 rfl rfl rfl ?_;simp only[qab,Nat.reduceAdd]
 repeat'(first|((with_reducible (show evG _ _ (.region 3 _ _) _ _));(with_reducible apply qbM))|((with_reducible apply qdD);rfl)|(with_reducible apply qf2)|(with_reducible apply qcY)|(with_reducible apply qd6)|refine zS ?_|refine zA ?_|(refine zC ?_ ?_<;>first|intro h|simp)|refine zE ?_|fail)
 ·exact qod (by omega)
 rw[qsT (by omega)]
 refine qad s.dreds.length (fun i=>⟨[(3,.om 0),(17,.int .i64 i),(15,.sl (s.dreds.map qa4)),(16,.int .i64 s.dreds.length),(1,.op 1 0 0)],[(0,⟨0,true,(s.dreds.take i).map fun x=>[.str x.name,.bool true]⟩),(1,⟨12,true,[encSite s]⟩)],64,48⟩) (fun i=>∀j,j<i→qmk s.ground.soils s.dreds j=0) (qaa (nx:=64) (k:=0) (ns:=[]) (ks:=[3,17,15,16,1]) [(192,0),(0,1)] rfl (by simp) (by kernel_rfl)) (by omega) ?_
 intro i hi hC
 by_cases hL:i<s.dreds.length
 rotate_left
 ·repeat'(first|refine zQ ?_|(refine zI ?_;intro hlt)|(refine zC ?_ ?_<;>first|intro h|simp)|refine zE ?_|fail)
  all_goals first
   |exact absurd hL (by omega)
   |exact(qaC fun j hj=>hC j (by omega)).symm
   |trace_state
 have hd8:=hol _ (List.getElem_mem hL)
 have h1:=qmm s.dreds[i] hd8
 by_cases ha:((s.dreds.take i).any fun y=>decide (y.name=s.dreds[i].name))=true
 ·have hf:=qim (nm:=fun x:Dred=>x.name) ha
  repeat'(first|((with_reducible apply qb1);rfl;rfl;rfl;rfl;(exact hf);rfl;rfl)|refine zS ?_|refine zA ?_|refine zF h1 ?_|(refine zI ?_;intro hlt)|(refine zC ?_ ?_<;>first|intro h|simp)|refine zE ?_|fail)
  all_goals first
   |exact absurd hL (by omega)
   |exact qat hL hC (qrf hL (by assumption)) (by assumption)
   |exact qat hL hC (qxw hL (by assumption) ha) (by decide)
   |trace_state
 have ha':((s.dreds.take i).any fun y=>decide (y.name=s.dreds[i].name))=false:=by simpa using ha
 have hf:=qlt (nm:=fun x:Dred=>x.name) ha'
 repeat'(first|((with_reducible apply qb1);rfl;rfl;rfl;rfl;(exact hf);rfl;rfl)|((with_reducible (show evG _ _ (.region 12 _ _) _ _));(with_reducible apply qbM))|((with_reducible apply qeq);rfl;rfl;rfl;rfl;rfl;rfl;(exact hf);rfl)|(with_reducible apply qf2)|(with_reducible apply qcY)|(with_reducible apply qd6)|refine zS ?_|refine zA ?_|refine zF h1 ?_|(refine zI ?_;intro hlt)|(refine zC ?_ ?_<;>first|intro h|simp)|refine zE ?_|fail)
 all_goals first
  |exact absurd hL (by omega)
  |exact qat hL hC (qrf hL (by assumption)) (by assumption)
  |skip
 refine qad s.dreds[i].outs.length (fun j=>⟨[(36,.int .i64 j),(34,.sl (s.dreds[i].outs.map qb3)),(35,.int .i64 s.dreds[i].outs.length),(3,.om 0),(17,.int .i64 i),(15,.sl (s.dreds.map qa4)),(16,.int .i64 s.dreds.length),(1,.op 1 0 0)],[(0,⟨0,true,((s.dreds.take i).map fun x=>[.str x.name,.bool true])++[[.str s.dreds[i].name,.bool true]]⟩),(1,⟨12,true,[encSite s]⟩)],64,48⟩) (fun j=>∀m (hm:m<j) (hm':m<s.dreds[i].outs.length),¬qbj s.ground.soils s.dreds[i].outs[m].soil<0)
  (qaa (nx:=64) (k:=0) (ns:=[]) (ks:=[36,34,35,3,17,15,16,1]) [(0,0),(1,1)] rfl (by simp) (by kernel_rfl)) (by omega) ?_
 intro j hj hJ
 by_cases hM:j<s.dreds[i].outs.length
 ·have h3:=qKf s.ground.soils hs 173 [.ptr (qb3 s.dreds[i].outs[j])] (fun _ _=>rfl) rfl (fun x=>decide (x.name=s.dreds[i].outs[j].soil)) fun x _=>qz1 x _
  rw[qz2]at h3
  by_cases hk:qbj s.ground.soils s.dreds[i].outs[j].soil<0
  ·rw[decide_eq_false (by omega)]at h3
   repeat'(first|refine zQ ?_|refine zF h3 ?_|(refine zI ?_;intro hlt)|(refine zC ?_ ?_<;>first|intro h|simp)|refine zE ?_|fail)
   all_goals first
    |exact absurd hM (by omega)
    |exact qat hL hC (qxx hL (by assumption) ha' hM hk) (by decide)
    |trace_state
  ·rw[decide_eq_true (by omega)]at h3
   repeat'(first|refine zQ ?_|refine zF h3 ?_|(refine zI ?_;intro hlt)|(refine zC ?_ ?_<;>first|intro h|simp)|fail)
   all_goals first
    |exact absurd hM (by omega)
    |(refine⟨by omega,fun m hm hm'=>?_,qaa (nx:=64) (k:=0) (ns:=[]) (ks:=[36,34,35,3,17,15,16,1]) [(0,0),(1,1)] rfl (by simp) (by kernel_rfl)⟩
      rcases Nat.lt_succ_iff_lt_or_eq.1 hm with h'|rfl
      ·exact hJ m h' hm'
      ·exact hk)
    |trace_state
 ·repeat'(first|refine zQ ?_|(refine zI ?_;intro hlt)|(refine zC ?_ ?_<;>first|intro h|simp)|fail)
  all_goals first
   |exact absurd hM (by omega)
   |(refine⟨hL,qaQ hC (qxy hL (by assumption) ha' fun m hm=>hJ m (by omega) hm),?_⟩
     show qcr _ ⟨[(3,.om 0),(17,.int .i64 (i+1:Nat)),(15,.sl (s.dreds.map qa4)),(16,.int .i64 s.dreds.length),(1,.op 1 0 0)],[(0,⟨0,true,(s.dreds.take (i+1)).map fun x=>[.str x.name,.bool true]⟩),(1,⟨12,true,[encSite s]⟩)],64,48⟩
     rw[List.take_succ_eq_append_getElem hL,List.map_append]
     exact qaa (nx:=64) (k:=0) (ns:=[]) (ks:=[3,17,15,16,1]) [(0,0),(1,1)] rfl (by simp) (by kernel_rfl))
   |trace_state
theorem qlx(s:Site)(hs:s.ground.soils.length<1000000000000)(hl:s.dreds.length≤9223372036854775807)(hol:∀d∈s.dreds,d.outs.length≤9223372036854775807):Contract Tryz.prog 102 [.agg (encSite s)] (.ret (.int .i64 (qeE s.ground.soils s.dreds))):=by
 refine zT mix Tryz.func102 Tryz.ntmps102 Tryz.results102 rfl rfl rfl ?_;simp only[qab,Nat.reduceAdd]
 repeat'(first|refine zQ ?_|(refine zC ?_ ?_<;>first|intro h|simp)|refine zE ?_|fail)
 ·exact qod (by omega)
 rw[qsT (by omega)]
 refine qad s.dreds.length (fun i=>⟨[(3,.int .i64 i),(1,.op 0 0 0)],[(0,⟨12,true,[encSite s]⟩)],32,61⟩) (fun i=>∀j,j<i→qmk s.ground.soils s.dreds j=0) (qaa (nx:=32) (k:=0) (ns:=[]) (ks:=[3,1]) [(0,0)] rfl (by simp) (by kernel_rfl)) (by omega) ?_
 intro i hi hC
 by_cases hL:i<s.dreds.length
 rotate_left
 ·repeat'(first|refine zQ ?_|(refine zI ?_;intro hlt)|(refine zC ?_ ?_<;>first|intro h|simp)|refine zE ?_|fail)
  all_goals first
   |exact absurd hL (by omega)
   |exact(qaC fun j hj=>hC j (by omega)).symm
   |trace_state
 have hd8:=hol _ (List.getElem_mem hL)
 have h1:=qmn s.dreds[i] hd8
 repeat'(first|refine zQ ?_|refine zF h1 ?_|(refine zI ?_;intro hlt)|(refine zC ?_ ?_<;>first|intro h|simp)|refine zE ?_|fail)
 all_goals first
  |exact absurd hL (by omega)
  |exact qat hL hC (qrf hL (by assumption)) (by assumption)
  |skip
 refine qad i (fun k=>⟨[(6,.int .i64 k),(3,.int .i64 i),(1,.op 0 0 0),(4,.op 1 0 0)],[(0,⟨12,true,[encSite s]⟩),(1,⟨8,false,[qa4 s.dreds[i]]⟩)],64,61⟩) (fun k=>∀j (hj:j<k),¬(s.dreds[j]?.map (·.name)=some s.dreds[i].name)) (qaa (nx:=64) (k:=0) (ns:=[]) (ks:=[6,3,1,4]) [(0,0),(352,1)] rfl (by simp) (by kernel_rfl)) (by omega) ?_
 intro k hk hK
 by_cases hlk:k<i
 ·have hkl:k<s.dreds.length:=by omega
  repeat'(first|refine zQ ?_|(refine zI ?_;intro hlt)|(refine zC ?_ ?_<;>first|intro h|simp)|((with_reducible apply qaz);rfl;rfl)|refine zE ?_|fail)
  all_goals try simp only[Int.toNat_natCast]at*
  all_goals first
   |exact absurd hlk (by omega)
   |exact qat hL hC (qxw hL (by assumption) (qin hlk hkl (by assumption))) (by decide)
   |(refine⟨by omega,qgu hkl hK (by assumption),qaa (nx:=64) (k:=0) (ns:=[]) (ks:=[6,3,1,4]) [(0,0),(1,1)] rfl (by simp) (by kernel_rfl)⟩)
   |trace_state
 obtain rfl:k=i:=by omega
 have ha':=qlu hK
 repeat'(first|refine zQ ?_|(refine zI ?_;intro hlt)|(refine zC ?_ ?_<;>first|intro h|simp)|((with_reducible apply qaz);rfl;rfl)|refine zE ?_|fail)
 all_goals try exact absurd (show k<k by omega) hlk
 refine qad s.dreds[k].outs.length (fun j=>⟨[(7,.int .i64 j),(3,.int .i64 k),(1,.op 0 0 0),(4,.op 1 0 0)],[(0,⟨12,true,[encSite s]⟩),(1,⟨8,false,[qa4 s.dreds[k]]⟩)],64,61⟩) (fun j=>∀m (hm:m<j) (hm':m<s.dreds[k].outs.length),¬qbj s.ground.soils s.dreds[k].outs[m].soil<0)
  (qaa (nx:=64) (k:=0) (ns:=[]) (ks:=[7,3,1,4]) [(0,0),(1,1)] rfl (by simp) (by kernel_rfl)) (by omega) ?_
 intro j hj hJ
 by_cases hM:j<s.dreds[k].outs.length
 ·have h3:=c84 s.ground.soils hs s.dreds[k].outs[j].soil
  repeat'(first|refine zQ ?_|refine zF h3 ?_|(refine zI ?_;intro hlt)|(refine zC ?_ ?_<;>first|intro h|simp)|refine zE ?_|fail)
  all_goals try simp only[Int.toNat_natCast]at*
  all_goals first
   |exact absurd hM (by omega)
   |exact qat hL hC (qxx hL (by assumption) ha' hM (by assumption)) (by decide)
   |(refine⟨by omega,fun m hm hm'=>?_,qaa (nx:=64) (k:=0) (ns:=[]) (ks:=[7,3,1,4]) [(0,0),(1,1)] rfl (by simp) (by kernel_rfl)⟩
     rcases Nat.lt_succ_iff_lt_or_eq.1 hm with h'|rfl
     ·exact hJ m h' hm'
     ·assumption)
   |trace_state
 ·repeat'(first|refine zQ ?_|(refine zI ?_;intro hlt)|(refine zC ?_ ?_<;>first|intro h|simp)|fail)
  all_goals first
   |exact absurd hM (by omega)
   |(refine⟨hL,qaQ hC (qxy hL (by assumption) ha' fun m hm=>hJ m (by omega) hm),qaa (nx:=32) (k:=0) (ns:=[]) (ks:=[3,1]) [(0,0)] rfl (by simp) (by kernel_rfl)⟩)
   |trace_state
theorem qfQ(s:Site):qda s=if qa2 s.bed≠0 then qa2 s.bed else if qaB s.ground≠0 then qaB s.ground else if qdZ s.zones≠0 then qdZ s.zones else if qeb s.quays≠0 then qeb s.quays else if qcg s.gauges≠0 then qcg s.gauges else qeE s.ground.soils s.dreds:=rfl
structure Sized(s:Site):Prop where
 lv:s.bed.levels.length<1000000000000
 so:s.ground.soils.length<1000000000000
 bo:s.ground.borings.length<1000000000000
 zo:s.zones.length≤9223372036854775807
 qu:s.quays.length≤9223372036854775807
 ga:s.gauges.length≤9223372036854775807
 ma:∀g∈s.gauges,g.marks.length≤9223372036854775807
 dr:s.dreds.length≤9223372036854775807
 ou:∀d∈s.dreds,d.outs.length≤9223372036854775807
theorem qCV(s:Site)(h:Sized s):Contract Tryz.prog 85 [.ptr (encSite s)] (.ret (.int .i64 (qa2 s.bed))):=by
 have h1:=qD6 s.bed h.lv
 refine zT mix Tryz.func85 Tryz.ntmps85 Tryz.results85 rfl rfl rfl ?_;simp only[qab,Nat.reduceAdd]
 repeat'(first|(with_reducible rfl)|refine zQ ?_|refine zF h1 ?_|refine zE ?_|fail)
theorem qCW(s:Site)(h:Sized s):Contract Tryz.prog 87 [.ptr (encSite s)] (.ret (.int .i64 (qaB s.ground))):=by
 have h1:=c22 s.ground h.so h.bo
 refine zT mix Tryz.func87 Tryz.ntmps87 Tryz.results87 rfl rfl rfl ?_;simp only[qab,Nat.reduceAdd]
 repeat'(first|(with_reducible rfl)|refine zQ ?_|refine zF h1 ?_|refine zE ?_|fail)
theorem qCX(s:Site)(h:Sized s):Contract Tryz.prog 89 [.ptr (encSite s)] (.ret (.int .i64 (qdZ s.zones))):=by
 have h1:=qpD s.zones h.zo
 refine zT mix Tryz.func89 Tryz.ntmps89 Tryz.results89 rfl rfl rfl ?_;simp only[qab,Nat.reduceAdd]
 repeat'(first|(with_reducible rfl)|refine zQ ?_|refine zF h1 ?_|refine zE ?_|fail)
theorem qCY(s:Site)(h:Sized s):Contract Tryz.prog 91 [.ptr (encSite s)] (.ret (.int .i64 (qeb s.quays))):=by
 have h1:=qpF s.quays h.qu
 refine zT mix Tryz.func91 Tryz.ntmps91 Tryz.results91 rfl rfl rfl ?_;simp only[qab,Nat.reduceAdd]
 repeat'(first|(with_reducible rfl)|refine zQ ?_|refine zF h1 ?_|refine zE ?_|fail)
theorem qCZ(s:Site)(h:Sized s):Contract Tryz.prog 93 [.ptr (encSite s)] (.ret (.int .i64 (qcg s.gauges))):=by
 have h1:=qip s.gauges h.ga h.ma
 refine zT mix Tryz.func93 Tryz.ntmps93 Tryz.results93 rfl rfl rfl ?_;simp only[qab,Nat.reduceAdd]
 repeat'(first|(with_reducible rfl)|refine zQ ?_|refine zF h1 ?_|refine zE ?_|fail)
theorem qC0(s:Site)(h:Sized s):Contract Tryz.prog 95 [.ptr (encSite s)] (.ret (.int .i64 (qeE s.ground.soils s.dreds))):=by
 have h1:=qlw s h.so h.dr h.ou
 refine zT mix Tryz.func95 Tryz.ntmps95 Tryz.results95 rfl rfl rfl ?_;simp only[qab,Nat.reduceAdd]
 repeat'(first|(with_reducible rfl)|refine zQ ?_|refine zF h1 ?_|refine zE ?_|fail)
theorem qhF(s:Site)(h:Sized s):Contract Tryz.prog 25 [.agg (encSite s)] (.ret (.int .i64 (qda s))):=by
 have h1:=c28 s.bed h.lv
 have h2:=c23 s.ground h.so h.bo
 have h3:=qpE s.zones h.zo
 have h4:=qpG s.quays h.qu
 have h5:=qoc s.gauges h.ga h.ma
 have h6:=qlx s h.so h.dr h.ou
 rw[qfQ]
 generalize qa2 s.bed=e1 at*
 generalize qaB s.ground=e2 at*
 generalize qdZ s.zones=e3 at*
 generalize qeb s.quays=e4 at*
 generalize qcg s.gauges=e5 at*
 generalize qeE s.ground.soils s.dreds=e6 at*
 refine zT mix Tryz.func25 Tryz.ntmps25 Tryz.results25 rfl rfl rfl ?_;simp only[qab,Nat.reduceAdd]
 repeat'(first|refine zQ ?_|refine zF h1 ?_|refine zF h2 ?_|refine zF h3 ?_|refine zF h4 ?_|refine zF h5 ?_|refine zF h6 ?_|(refine zC ?_ ?_<;>first|intro h|simp)|refine zE ?_|fail)
 all_goals first
  |(simp only[*,ne_eq,not_true,not_false_iff,if_true,if_false];done)
  |(simp_all;done)
  |trace_state
theorem qfR(s:Site)(h:Sized s):Contract Tryz.prog 24 [.agg (encSite s)] (.ret (.int .i64 (qda s))):=by
 have h1:=qCV s h
 have h2:=qCW s h
 have h3:=qCX s h
 have h4:=qCY s h
 have h5:=qCZ s h
 have h6:=qC0 s h
 refine zT mix Tryz.func24 Tryz.ntmps24 Tryz.results24 rfl rfl rfl ?_;simp only[qab,Nat.reduceAdd]
 repeat'(first|((with_reducible apply qm4);rfl;rfl;rfl;rfl;rfl;rfl;rfl;rfl)|refine zS ?_|refine zA ?_|fail)
 refine qad 6 (fun i=>⟨[(16,.int .i64 i),(15,.int .i64 6),(14,.os 1 0 6)],[(1,⟨1,false,[[.clo (.func 85) [] [.op 0 0 0]],[.clo (.func 87) [] [.op 0 0 0]],[.clo (.func 89) [] [.op 0 0 0]],[.clo (.func 91) [] [.op 0 0 0]],[.clo (.func 93) [] [.op 0 0 0]],[.clo (.func 95) [] [.op 0 0 0]]]⟩),(0,⟨12,true,[encSite s]⟩)],64,26⟩)
  (fun i=>(0<i→qa2 s.bed=0)∧(1<i→qaB s.ground=0)∧(2<i→qdZ s.zones=0)∧(3<i→qeb s.quays=0)∧(4<i→qcg s.gauges=0)∧(5<i→qeE s.ground.soils s.dreds=0)) (qaa (nx:=64) (k:=0) (ns:=[]) (ks:=[16,15,14]) [(256,1),(0,0)] rfl (by simp) (by kernel_rfl)) (by omega) ?_
 intro i hi hC
 rw[qfQ]
 generalize qa2 s.bed=e1 at*
 generalize qaB s.ground=e2 at*
 generalize qdZ s.zones=e3 at*
 generalize qeb s.quays=e4 at*
 generalize qcg s.gauges=e5 at*
 generalize qeE s.ground.soils s.dreds=e6 at*
 match i,hi,hC with
 |0,_,hC=>
  repeat'(first|((with_reducible apply qcE);rfl;rfl;(exact h1);rfl)|refine zQ ?_|(refine zC ?_ ?_<;>first|intro h|simp)|refine zE ?_|fail)
  all_goals first
   |(simp[*];done)
   |exact⟨by omega,⟨fun hh=>by first|trivial|rfl|assumption|exact absurd hh (by decide),fun hh=>by first|trivial|rfl|assumption|exact absurd hh (by decide),fun hh=>by first|trivial|rfl|assumption|exact absurd hh (by decide),fun hh=>by first|trivial|rfl|assumption|exact absurd hh (by decide),fun hh=>by first|trivial|rfl|assumption|exact absurd hh (by decide),fun hh=>by first|trivial|rfl|assumption|exact absurd hh (by decide)⟩,qaa (nx:=64) (k:=0) (ns:=[]) (ks:=[16,15,14]) [(1,1),(0,0)] rfl (by simp) (by kernel_rfl)⟩
   |exact qaa (nx:=64) (k:=0) (ns:=[]) (ks:=[16,15,14]) [(1,1),(0,0)] rfl (by simp) (by kernel_rfl)
   |(exfalso;simp at *;done)
   |trace_state
 |1,_,hC=>
  obtain rfl:e1=0:=hC.1 (by omega)
  repeat'(first|((with_reducible apply qcE);rfl;rfl;(exact h2);rfl)|refine zQ ?_|(refine zC ?_ ?_<;>first|intro h|simp)|refine zE ?_|fail)
  all_goals first
   |(simp[*];done)
   |exact⟨by omega,⟨fun hh=>by first|trivial|rfl|assumption|exact absurd hh (by decide),fun hh=>by first|trivial|rfl|assumption|exact absurd hh (by decide),fun hh=>by first|trivial|rfl|assumption|exact absurd hh (by decide),fun hh=>by first|trivial|rfl|assumption|exact absurd hh (by decide),fun hh=>by first|trivial|rfl|assumption|exact absurd hh (by decide),fun hh=>by first|trivial|rfl|assumption|exact absurd hh (by decide)⟩,qaa (nx:=64) (k:=0) (ns:=[]) (ks:=[16,15,14]) [(1,1),(0,0)] rfl (by simp) (by kernel_rfl)⟩
   |exact qaa (nx:=64) (k:=0) (ns:=[]) (ks:=[16,15,14]) [(1,1),(0,0)] rfl (by simp) (by kernel_rfl)
   |(exfalso;simp at *;done)
   |trace_state
 |2,_,hC=>
  obtain rfl:e1=0:=hC.1 (by omega)
  obtain rfl:e2=0:=hC.2.1 (by omega)
  repeat'(first|((with_reducible apply qcE);rfl;rfl;(exact h3);rfl)|refine zQ ?_|(refine zC ?_ ?_<;>first|intro h|simp)|refine zE ?_|fail)
  all_goals first
   |(simp[*];done)
   |exact⟨by omega,⟨fun hh=>by first|trivial|rfl|assumption|exact absurd hh (by decide),fun hh=>by first|trivial|rfl|assumption|exact absurd hh (by decide),fun hh=>by first|trivial|rfl|assumption|exact absurd hh (by decide),fun hh=>by first|trivial|rfl|assumption|exact absurd hh (by decide),fun hh=>by first|trivial|rfl|assumption|exact absurd hh (by decide),fun hh=>by first|trivial|rfl|assumption|exact absurd hh (by decide)⟩,qaa (nx:=64) (k:=0) (ns:=[]) (ks:=[16,15,14]) [(1,1),(0,0)] rfl (by simp) (by kernel_rfl)⟩
   |exact qaa (nx:=64) (k:=0) (ns:=[]) (ks:=[16,15,14]) [(1,1),(0,0)] rfl (by simp) (by kernel_rfl)
   |(exfalso;simp at *;done)
   |trace_state
 |3,_,hC=>
  obtain rfl:e1=0:=hC.1 (by omega)
  obtain rfl:e2=0:=hC.2.1 (by omega)
  obtain rfl:e3=0:=hC.2.2.1 (by omega)
  repeat'(first|((with_reducible apply qcE);rfl;rfl;(exact h4);rfl)|refine zQ ?_|(refine zC ?_ ?_<;>first|intro h|simp)|refine zE ?_|fail)
  all_goals first
   |(simp[*];done)
   |exact⟨by omega,⟨fun hh=>by first|trivial|rfl|assumption|exact absurd hh (by decide),fun hh=>by first|trivial|rfl|assumption|exact absurd hh (by decide),fun hh=>by first|trivial|rfl|assumption|exact absurd hh (by decide),fun hh=>by first|trivial|rfl|assumption|exact absurd hh (by decide),fun hh=>by first|trivial|rfl|assumption|exact absurd hh (by decide),fun hh=>by first|trivial|rfl|assumption|exact absurd hh (by decide)⟩,qaa (nx:=64) (k:=0) (ns:=[]) (ks:=[16,15,14]) [(1,1),(0,0)] rfl (by simp) (by kernel_rfl)⟩
   |exact qaa (nx:=64) (k:=0) (ns:=[]) (ks:=[16,15,14]) [(1,1),(0,0)] rfl (by simp) (by kernel_rfl)
   |(exfalso;simp at *;done)
   |trace_state
 |4,_,hC=>
  obtain rfl:e1=0:=hC.1 (by omega)
  obtain rfl:e2=0:=hC.2.1 (by omega)
  obtain rfl:e3=0:=hC.2.2.1 (by omega)
  obtain rfl:e4=0:=hC.2.2.2.1 (by omega)
  repeat'(first|((with_reducible apply qcE);rfl;rfl;(exact h5);rfl)|refine zQ ?_|(refine zC ?_ ?_<;>first|intro h|simp)|refine zE ?_|fail)
  all_goals first
   |(simp[*];done)
   |exact⟨by omega,⟨fun hh=>by first|trivial|rfl|assumption|exact absurd hh (by decide),fun hh=>by first|trivial|rfl|assumption|exact absurd hh (by decide),fun hh=>by first|trivial|rfl|assumption|exact absurd hh (by decide),fun hh=>by first|trivial|rfl|assumption|exact absurd hh (by decide),fun hh=>by first|trivial|rfl|assumption|exact absurd hh (by decide),fun hh=>by first|trivial|rfl|assumption|exact absurd hh (by decide)⟩,qaa (nx:=64) (k:=0) (ns:=[]) (ks:=[16,15,14]) [(1,1),(0,0)] rfl (by simp) (by kernel_rfl)⟩
   |exact qaa (nx:=64) (k:=0) (ns:=[]) (ks:=[16,15,14]) [(1,1),(0,0)] rfl (by simp) (by kernel_rfl)
   |(exfalso;simp at *;done)
   |trace_state
 |5,_,hC=>
  obtain rfl:e1=0:=hC.1 (by omega)
  obtain rfl:e2=0:=hC.2.1 (by omega)
  obtain rfl:e3=0:=hC.2.2.1 (by omega)
  obtain rfl:e4=0:=hC.2.2.2.1 (by omega)
  obtain rfl:e5=0:=hC.2.2.2.2.1 (by omega)
  repeat'(first|((with_reducible apply qcE);rfl;rfl;(exact h6);rfl)|refine zQ ?_|(refine zC ?_ ?_<;>first|intro h|simp)|refine zE ?_|fail)
  all_goals first
   |(simp[*];done)
   |exact⟨by omega,⟨fun hh=>by first|trivial|rfl|assumption|exact absurd hh (by decide),fun hh=>by first|trivial|rfl|assumption|exact absurd hh (by decide),fun hh=>by first|trivial|rfl|assumption|exact absurd hh (by decide),fun hh=>by first|trivial|rfl|assumption|exact absurd hh (by decide),fun hh=>by first|trivial|rfl|assumption|exact absurd hh (by decide),fun hh=>by first|trivial|rfl|assumption|exact absurd hh (by decide)⟩,qaa (nx:=64) (k:=0) (ns:=[]) (ks:=[16,15,14]) [(1,1),(0,0)] rfl (by simp) (by kernel_rfl)⟩
   |exact qaa (nx:=64) (k:=0) (ns:=[]) (ks:=[16,15,14]) [(1,1),(0,0)] rfl (by simp) (by kernel_rfl)
   |(exfalso;simp at *;done)
   |trace_state
 |6,_,hC=>
  obtain rfl:e1=0:=hC.1 (by omega)
  obtain rfl:e2=0:=hC.2.1 (by omega)
  obtain rfl:e3=0:=hC.2.2.1 (by omega)
  obtain rfl:e4=0:=hC.2.2.2.1 (by omega)
  obtain rfl:e5=0:=hC.2.2.2.2.1 (by omega)
  obtain rfl:e6=0:=hC.2.2.2.2.2 (by omega)
  repeat'(first|refine zQ ?_|refine zE ?_|fail)
  all_goals first
   |(simp[*];done)
   |exact⟨by omega,⟨fun hh=>by first|trivial|rfl|assumption|exact absurd hh (by decide),fun hh=>by first|trivial|rfl|assumption|exact absurd hh (by decide),fun hh=>by first|trivial|rfl|assumption|exact absurd hh (by decide),fun hh=>by first|trivial|rfl|assumption|exact absurd hh (by decide),fun hh=>by first|trivial|rfl|assumption|exact absurd hh (by decide),fun hh=>by first|trivial|rfl|assumption|exact absurd hh (by decide)⟩,qaa (nx:=64) (k:=0) (ns:=[]) (ks:=[16,15,14]) [(1,1),(0,0)] rfl (by simp) (by kernel_rfl)⟩
   |exact qaa (nx:=64) (k:=0) (ns:=[]) (ks:=[16,15,14]) [(1,1),(0,0)] rfl (by simp) (by kernel_rfl)
   |(exfalso;simp at *;done)
   |trace_state
def lv(l:List Int)(i:Nat):Int:=l.getD i 30000
theorem qbv{l:List Int}{i:Nat}(h:i<l.length):lv l i=l[i]:=by simp[lv,List.getD_eq_getElem?_getD,h]
theorem qlz{l:List Int}{i:Nat}(hi:i<l.length)(v:Int)(j:Nat):lv (l.set i v) j=if i=j then v else lv l j:=by
 simp only[lv,List.getD_eq_getElem?_getD,List.getElem?_set]
 by_cases h:i=j
 ·subst h;simp[hi]
 ·simp[h]
theorem qnd{a b:List Int}(h:a.length=b.length)(hi:∀i,i<a.length→lv a i=lv b i):a=b:=by
 refine List.ext_getElem h fun i h1 h2=>?_
 have:=hi i h1
 rwa[qbv h1,qbv h2]at this
structure Net where
 nb:Nat→Nat→Prop
 d:Nat→Nat→Int
structure Net.Ok(N:Net)(n:Nat):Prop where
 sym:∀i k,N.nb i k→N.nb k i
 dsym:∀i k,N.d i k=N.d k i
 pos:∀i k,i<n→k<n→N.nb i k→1≤N.d i k
 irr:∀i,¬N.nb i i
def qne(N:Net)(l:List Int):Prop:=∀i k,i<l.length→k<l.length→N.nb i k→lv l i≠30000→lv l k≠30000→lv l i-lv l k≤N.d i k
def qsX(w:Int)(m s:List Int):Prop:=s.length=m.length∧∀i,i<m.length→(lv s i=30000↔lv m i=30000)∧(lv m i≠30000→0≤(lv s i-lv m i)*w)
structure IsGS(N:Net)(w:Int)(m r:List Int):Prop where
 below:qsX w m r
 stable:qne N r
 best:∀s,qsX w m s→qne N s→∀i,i<m.length→lv m i≠30000→0≤(lv s i-lv r i)*w
structure Mid(N:Net)(w:Int)(m l:List Int):Prop where
 below:qsX w m l
 rng:∀i,i<l.length→lv l i≠30000→ -20000≤lv l i∧lv l i≤20000
 best:∀s,qsX w m s→qne N s→∀i,i<m.length→lv m i≠30000→0≤(lv s i-lv l i)*w
theorem Mid.start{N:Net}{w:Int}{m:List Int}(h:∀i,i<m.length→lv m i≠30000→ -20000≤lv m i∧lv m i≤20000):Mid N w m m:=
 ⟨⟨rfl,fun i _=>⟨Iff.rfl,fun _=>by simp⟩⟩,h,fun s hs _ i hi hk=>(hs.2 i hi).2 hk⟩
theorem IsGS.uniq{N:Net}{w:Int}{m r r':List Int}(hw:w= -1∨w=1)(h:IsGS N w m r)(h':IsGS N w m r'):r=r':=by
 have l1:=h.below.1
 have l2:=h'.below.1
 refine qnd (by omega) fun i hi=>?_
 have a1:=h.below.2 i (by omega)
 have a2:=h'.below.2 i (by omega)
 by_cases hk:lv m i=30000
 ·rw[a1.1.2 hk,a2.1.2 hk]
 ·have b1:=h.best r' h'.below h'.stable i (by omega) hk
  have b2:=h'.best r h.below h.stable i (by omega) hk
  rcases hw with rfl|rfl<;>omega
def qsY(N:Net)(w:Int)(l:List Int)(i k:Nat):Prop:=(lv l i-w*N.d i k-lv l k)*w≤0
theorem qmo{N:Net}{w:Int}{n:Nat}(hN:N.Ok n)(hw:w= -1∨w=1){l:List Int}(h:∀i k,i<l.length→k<l.length→N.nb i k→lv l i≠30000→lv l k≠30000→qsY N w l i k):qne N l:=by
 intro i k hi hk hb h1 h2
 have e:=hN.dsym i k
 rcases hw with rfl|rfl
 ·have:=h k i hk hi (hN.sym _ _ hb) h2 h1
  unfold qsY at this
  omega
 ·have:=h i k hi hk hb h1 h2
  unfold qsY at this
  omega
theorem qmp{N:Net}{w:Int}{n:Nat}(hN:N.Ok n)(hw:w= -1∨w=1){l:List Int}(h:qne N l):∀i k,i<l.length→k<l.length→N.nb i k→lv l i≠30000→lv l k≠30000→qsY N w l i k:=by
 intro i k hi hk hb h1 h2
 have e:=hN.dsym i k
 unfold qsY
 rcases hw with rfl|rfl
 ·have:=h k i hk hi (hN.sym _ _ hb) h2 h1
  omega
 ·have:=h i k hi hk hb h1 h2
  omega
theorem Mid.done{N:Net}{w:Int}{m l:List Int}(h:Mid N w m l)(hs:qne N l):IsGS N w m l:=⟨h.below,hs,h.best⟩
theorem Mid.step{N:Net}{w:Int}{n:Nat}(hN:N.Ok n)(hw:w= -1∨w=1){m l:List Int}(hn:m.length=n)(h:Mid N w m l){i k:Nat}(hi:i<l.length)(hk:k<l.length)(hb:N.nb i k)(h1:lv l i≠30000)(h2:lv l k≠30000)
  (hf:0<(lv l i-w*N.d i k-lv l k)*w):Mid N w m (l.set k (lv l i-w*N.d i k)):=by
 have hl:=h.below.1
 have d1:=hN.pos i k (by omega) (by omega) hb
 have r1:=h.rng i hi h1
 have r2:=h.rng k hk h2
 refine⟨⟨by simp[hl],fun j hj=>?_⟩,fun j hj hu=>?_,fun s hs hst j hj hu=>?_⟩
 ·have b:=h.below.2 j hj
  rw[qlz hk]
  split
  ·rename_i e
   subst e
   refine⟨⟨fun e=>?_,fun e=>absurd (b.1.2 e) h2⟩,fun hu=>?_⟩
   ·rcases hw with rfl|rfl<;>omega
   ·have:=b.2 hu
    rcases hw with rfl|rfl<;>omega
  ·exact b
 ·rw[List.length_set]at hj
  rw[qlz hk]at hu ⊢
  split
  ·rcases hw with rfl|rfl<;>omega
  ·rename_i e
   rw[if_neg e]at hu
   exact h.rng j hj hu
 ·have b:=h.best s hs hst j hj hu
  rw[qlz hk]
  split
  ·rename_i e
   subst e
   have hki:=h.below.2 i (by omega)
   have hui:lv m i≠30000:=fun e=>h1 (hki.1.2 e)
   have si:=hs.2 i (by omega)
   have sk:=hs.2 k (by omega)
   have bi:=h.best s hs hst i (by omega) hui
   have hlen:=hs.1
   have:=qmp hN hw hst i k (by omega) (by omega) hb (fun e=>hui (si.1.1 e)) (fun e=>hu (sk.1.1 e))
   unfold qsY at this
   rcases hw with rfl|rfl<;>omega
  ·exact b
def left(w:Int)(l:List Int):Nat:=(l.map fun x=>(40000-x*w).toNat).sum
def qfp(w:Int)(l:List Int):Int:=(l.map (· *w)).sum
theorem qsZ(w v:Int):∀(l:List Int) (k:Nat),k<l.length→left w (l.set k v)+(40000-lv l k*w).toNat=left w l+(40000-v*w).toNat
 |a::l,0,_=>by simp only[left,List.set_cons_zero,List.map_cons,List.sum_cons,lv,List.getD_cons_zero];omega
 |a::l,k+1,h=>by
  have:=qsZ w v l k (by simpa using h)
  simp only[left,List.set_cons_succ,List.map_cons,List.sum_cons,lv,List.getD_cons_succ]at this ⊢
  omega
theorem qpM(w v:Int):∀(l:List Int) (k:Nat),k<l.length→qfp w (l.set k v)+lv l k*w=qfp w l+v*w
 |a::l,0,_=>by simp only[qfp,List.set_cons_zero,List.map_cons,List.sum_cons,lv,List.getD_cons_zero];omega
 |a::l,k+1,h=>by
  have:=qpM w v l k (by simpa using h)
  simp only[qfp,List.set_cons_succ,List.map_cons,List.sum_cons,lv,List.getD_cons_succ]at this ⊢
  omega
theorem qpN{N:Net}{w:Int}{n:Nat}(hN:N.Ok n)(hw:w= -1∨w=1){m l:List Int}(hn:m.length=n)(h:Mid N w m l){i k:Nat}(hi:i<l.length)(hk:k<l.length)(hb:N.nb i k)(h1:lv l i≠30000)(h2:lv l k≠30000)
  (hf:0<(lv l i-w*N.d i k-lv l k)*w):left w (l.set k (lv l i-w*N.d i k))<left w l:=by
 have hl:=h.below.1
 have d1:=hN.pos i k (by omega) (by omega) hb
 have r1:=h.rng i hi h1
 have r2:=h.rng k hk h2
 have:=qsZ w (lv l i-w*N.d i k) l k hk
 rcases hw with rfl|rfl<;>omega
theorem qsY.mono{N:Net}{w:Int}{l l':List Int}{i k:Nat}(hw:w= -1∨w=1)(h:qsY N w l i k)(hi:lv l' i=lv l i)(hk:0≤(lv l' k-lv l k)*w):qsY N w l' i k:=by
 unfold qsY at h ⊢
 rw[hi]
 rcases hw with rfl|rfl<;>omega
structure Work(N:Net)(w:Int)(m l:List Int)(mv:Int)(q:List Int):Prop where
 mid:Mid N w m l
 mv:mv=qfp w l-qfp w m
 qs:∀x∈q,∃k:Nat,k<m.length∧x=k
 fits:∀i k,i<l.length→k<l.length→N.nb i k→lv l i≠30000→lv l k≠30000→(i:Int)∉q→qsY N w l i k
 size:q.length+left w l≤m.length+left w m
structure WorkIn(N:Net)(w:Int)(m l:List Int)(mv:Int)(q:List Int)(i:Nat)(done:Nat→Prop):Prop where
 mid:Mid N w m l
 mv:mv=qfp w l-qfp w m
 qs:∀x∈q,∃k:Nat,k<m.length∧x=k
 fits:∀a k,a<l.length→k<l.length→N.nb a k→lv l a≠30000→lv l k≠30000→(a:Int)∉q→a≠i→qsY N w l a k
 own:∀k,k<l.length→N.nb i k→lv l k≠30000→done k→qsY N w l i k
 size:q.length+left w l<m.length+left w m
 known:i<l.length∧lv l i≠30000
theorem Work.enter{N:Net}{w:Int}{m l:List Int}{mv:Int}{q:List Int}{i:Nat}(h:Work N w m l mv ((i:Int)::q))(hk:lv l i≠30000):WorkIn N w m l mv q i fun _=>False:=by
 have hi:i<l.length:=by
  obtain⟨k,hk,e⟩:=h.qs i (by simp)
  have:=h.mid.below.1
  omega
 refine⟨h.mid,h.mv,fun x hx=>h.qs x (by simp[hx]),fun a k a1 a2 a3 a4 a5 a6 a7=>h.fits a k a1 a2 a3 a4 a5 ?_,fun _ _ _ _ hf=>hf.elim,?_,hi,hk⟩
 ·simp only[List.mem_cons,not_or]
  exact⟨by omega,a6⟩
 ·have:=h.size
  simp only[List.length_cons]at this
  omega
theorem Work.skip{N:Net}{w:Int}{m l:List Int}{mv:Int}{q:List Int}{i:Nat}(h:Work N w m l mv ((i:Int)::q))(hk:lv l i=30000):Work N w m l mv q:=by
 refine⟨h.mid,h.mv,fun x hx=>h.qs x (by simp[hx]),fun a k a1 a2 a3 a4 a5 a6=>h.fits a k a1 a2 a3 a4 a5 ?_,?_⟩
 ·simp only[List.mem_cons,not_or]
  refine⟨fun e=>?_,a6⟩
  have:a=i:=by omega
  subst this
  exact a4 hk
 ·have:=h.size
  simp only[List.length_cons]at this
  omega
theorem WorkIn.move{N:Net}{w:Int}(hw:w= -1∨w=1){m l:List Int}{mv:Int}{q:List Int}{i k:Nat}{done:Nat→Prop}(hN:N.Ok m.length)(h:WorkIn N w m l mv q i done)(hk:k<l.length)(hb:N.nb i k)(hu:lv l k≠30000)(hf:0<(lv l i-w*N.d i k-lv l k)*w):
  WorkIn N w m (l.set k (lv l i-w*N.d i k)) (mv+(lv l i-w*N.d i k-lv l k)*w) (q++[(k:Int)]) i (fun x=>done x∨x=k):=by
 have hki:i≠k:=fun e=>hN.irr i (by rw[e]at hb ⊢;exact hb)
 have hmid:=h.mid.step hN hw rfl h.known.1 hk hb h.known.2 hu hf
 have hl:=h.mid.below.1
 have e1:∀a,a≠k→lv (l.set k (lv l i-w*N.d i k)) a=lv l a:=fun a ha=>by rw[qlz hk,if_neg (fun e=>ha e.symm)]
 have e2:lv (l.set k (lv l i-w*N.d i k)) k=lv l i-w*N.d i k:=by rw[qlz hk,if_pos rfl]
 have e3:∀b,0≤(lv (l.set k (lv l i-w*N.d i k)) b-lv l b)*w:=fun b=>by
  by_cases hb:b=k
  ·subst hb;rw[e2];omega
  ·rw[e1 b hb];simp
 have e4:∀b,b<l.length→lv (l.set k (lv l i-w*N.d i k)) b≠30000→lv l b≠30000:=fun b hb hx=>by
  by_cases hbk:b=k
  ·subst hbk;exact hu
  ·rwa[e1 b hbk]at hx
 refine⟨hmid,?_,fun x hx=>?_,fun a b a1 a2 a3 a4 a5 a6 a7=>?_,fun b b1 b2 b3 b4=>?_,?_,?_⟩
 ·have:=qpM w (lv l i-w*N.d i k) l k hk
  rw[h.mv,Int.sub_mul]
  omega
 ·rcases List.mem_append.1 hx with hx|hx
  ·exact h.qs x hx
  ·simp only[List.mem_singleton]at hx
   exact⟨k,by omega,hx⟩
 ·rw[List.length_set]at a1 a2
  simp only[List.mem_append,List.mem_singleton,not_or]at a6
  have hak:a≠k:=by omega
  exact(h.fits a b a1 a2 a3 (e4 a a1 a4) (e4 b a2 a5) a6.1 a7).mono hw (e1 a hak) (e3 b)
 ·rw[List.length_set]at b1
  rcases b4 with b4|rfl
  ·exact(h.own b b1 b2 (e4 b b1 b3) b4).mono hw (e1 i hki) (e3 b)
  ·unfold qsY
   rw[e1 i hki,e2]
   simp
 ·have:=qpN hN hw rfl h.mid h.known.1 hk hb h.known.2 hu hf
  have:=h.size
  simp only[List.length_append,List.length_cons,List.length_nil]
  omega
 ·rw[List.length_set,e1 i hki]
  exact h.known
theorem Work.done{N:Net}{w:Int}(hw:w= -1∨w=1){m l:List Int}{mv:Int}(hN:N.Ok m.length)(h:Work N w m l mv []):IsGS N w m l:=
 h.mid.done (qmo hN hw fun i k a b c d e=>h.fits i k a b c d e (by simp))
theorem Work.start{N:Net}{w:Int}{m:List Int}{q:List Int}(hm:∀i,i<m.length→lv m i≠30000→ -20000≤lv m i∧lv m i≤20000)(hl:q.length≤m.length)(hq:∀i,i<m.length→(i:Int)∈q)(hq':∀x∈q,∃k:Nat,k<m.length∧x=k):Work N w m m 0 q:=
 ⟨Mid.start hm,by omega,hq',fun i k h1 _ _ _ _ h6=>absurd (hq i h1) h6,by omega⟩
theorem Mid.try{N:Net}{w:Int}(hw:w= -1∨w=1){m l:List Int}(hN:N.Ok m.length)(h:Mid N w m l){i k:Nat}(hi:i<l.length)(hk:k<l.length)(hb:N.nb i k)(h1:lv l i≠30000)(h2:lv l k≠30000){v:Int}(hv:v=if 0<(lv l i-w*N.d i k-lv l k)*w then lv l i-w*N.d i k else lv l k):
  Mid N w m (l.set k v)∧left w (l.set k v)≤left w l∧(0<(lv l i-w*N.d i k-lv l k)*w→left w (l.set k v)<left w l):=by
 subst hv
 split
 ·rename_i hf
  have:=qpN hN hw rfl h hi hk hb h1 h2 hf
  exact⟨h.step hN hw rfl hi hk hb h1 h2 hf,by omega,fun _=>this⟩
 ·rename_i hf
  have e:l.set k (lv l k)=l:=by rw[qbv hk];exact List.set_getElem_self hk
  rw[e]
  exact⟨h,Nat.le_refl _,fun h=>absurd h hf⟩
theorem qMc(g:Grid)(hl:g.levels.length≤1000000000)(h0:qa2 g=0):Contract Tryz.prog 257 [.agg (qag g)] (.ret (.tup [.agg (qmq g++[.fr 1 ((List.replicate g.levels.length (30000:Int)).map qal)]),.int .i64 0])):=by
 have h1:=qD6 g (by omega)
 rw[h0]at h1
 have h2:=qMb g hl
 generalize hR:List.replicate g.levels.length (30000:Int)=R at*
 have hlen:R.length=g.levels.length:=by rw[←hR];simp
 refine zT mix Tryz.func257 Tryz.ntmps257 Tryz.results257 rfl rfl rfl ?_;simp only[qab,Nat.reduceAdd]
 repeat'(first|refine zQ ?_|refine zF h1 ?_|fail)
 all_goals try(exfalso;omega)
 refine qic (f:=qal) (l:=R) (cs:=qmq g) (q:=5) (args':=[.agg (qag g),.clo (.func 288) [] []]) rfl h2 (fun _=>⟨rfl,rfl⟩) rfl rfl rfl rfl rfl ?_
 repeat'(first|refine zA ?_|fail)
 all_goals first
  |(exfalso;omega)
  |exact qbs (qso (cs:=qmq g) (len:=R.length) rfl rfl (by simp) rfl rfl rfl)
  |trace_state
theorem qto{α:Type}{f:α→Int}{l:List α}(h:∀i,0<i→∀hi:i<l.length,f (l[i-1]'(by omega))<f l[i]):l.Pairwise fun x y=>f x<f y:=by
 refine List.pairwise_iff_getElem.2 fun i j hi hj hij=>?_
 have key:∀d,∀hd:i+1+d<l.length,f l[i]<f l[i+1+d]:=fun d=>by
  induction d with
  |zero=>exact fun hd=>by simpa using h (i+1) (by omega) hd
  |succ d ih=>
   intro hd
   have h1:=ih (by omega)
   have h2:=h (i+1+(d+1)) (by omega) hd
   simp only[show i+1+(d+1)-1=i+1+d by omega]at h2
   omega
 have:=key (j-i-1) (by omega)
 simpa only[show i+1+(j-i-1)=j by omega]using this
structure OkGauge(g:Gauge):Prop where
 x: -1000000≤g.x∧g.x≤1000000
 e:0≤g.err∧g.err≤1000
 l:g.marks.length≤400
 m:∀i (h:i<g.marks.length),(0≤g.marks[i].minute∧g.marks[i].minute≤1000000)∧(-20000≤g.marks[i].level∧g.marks[i].level≤20000)
 a:g.marks.Pairwise fun x y=>x.minute<y.minute
theorem qDm{g:Gauge}(h:qoI g=0):OkGauge g:=by
 unfold qoI at h
 split at h
 ·omega
 ·rename_i h1
  have h1:=Classical.not_not.1 h1
  split at h
  ·omega
  ·have hs:=qde h
   refine⟨h1.1,h1.2,by omega,fun i hi=>?_,qto (f:=Mark.minute) fun i h0 hi=>?_⟩
   ·have:=hs i hi
    rw[qio hi]at this
    split at this
    ·omega
    ·rename_i hm
     rw[Bool.not_eq_false]at hm
     exact of_decide_eq_true hm
   ·have:=hs i hi
    rw[qio hi]at this
    split at this
    ·omega
    ·split at this
     ·omega
     ·rename_i h3
      rw[List.getElem?_eq_getElem (by omega)]at h3
      simp only[Option.map_some,Option.getD_some]at h3
      omega
structure OkGauges(l:List Gauge):Prop where
 len:l.length≤6
 gs:∀i (h:i<l.length),OkGauge l[i]
 asc:l.Pairwise fun x y=>x.x<y.x
theorem qkp{l:List Gauge}(h:qcg l=0):OkGauges l:=by
 unfold qcg at h
 split at h
 ·omega
 ·have hs:=qde h
  refine⟨by omega,fun i hi=>?_,qto (f:=Gauge.x) fun i h0 hi=>?_⟩
  ·have:=hs i hi
   rw[qhE hi]at this
   split at this
   ·omega
   ·split at this
    ·omega
    ·split at this
     ·contradiction
     ·rename_i h3;exact qDm (Classical.not_not.1 h3)
  ·have:=hs i hi
   rw[qhE hi]at this
   split at this
   ·omega
   ·split at this
    ·omega
    ·split at this
     ·contradiction
     ·split at this
      ·omega
      ·rename_i h3
       rw[List.getElem?_eq_getElem (by omega)]at h3
       simp only[Option.map_some,Option.getD_some]at h3
       omega
theorem qBL{a b:Int}(hb:0<b):(if a.tmod b<0 then a.tdiv b-1 else a.tdiv b)=a/b:=by
 have h1:=Int.mul_ediv_add_emod a b
 have h2:=Int.emod_nonneg a (show b≠0 by omega)
 have h3:=Int.emod_lt_of_pos a hb
 have h4:=Int.mul_tdiv_add_tmod a b
 have h5: -b<a.tmod b∧a.tmod b<b:=⟨(qkj hb).2.1,(qkj hb).2.2⟩
 have h6:=(qkj (n:=a) hb).1
 split
 ·rename_i hn
  have e:b*(a/b)=b*(a.tdiv b-1):=by
   have e1:a%b=a.tmod b+b:=by rw[h6,←Int.add_emod_right,Int.emod_eq_of_lt (by omega) (by omega)]
   rw[Int.mul_sub,Int.mul_one];omega
  exact(Int.eq_of_mul_eq_mul_left (by omega) e).symm
 ·have e:b*(a/b)=b*a.tdiv b:=by
   have e1:a%b=a.tmod b:=by rw[h6];exact Int.emod_eq_of_lt (by omega) (by omega)
   omega
  exact(Int.eq_of_mul_eq_mul_left (by omega) e).symm
theorem qx3(a b:Int)(hb:0<b)(ha: -9000000000000000000≤a∧a≤9000000000000000000):Contract Tryz.prog 301 [.int .i64 a,.int .i64 b] (.ret (.int .i64 (a/b))):=by
 have e:=qBL (a:=a) hb
 have hq: -9000000000000000000≤a.tdiv b∧a.tdiv b≤9000000000000000000:=by
  rcases Int.le_total 0 a with h|h
  ·have:=qfl h hb;omega
  ·have:=qfl (a:= -a) (b:=b) (by omega) hb;rw[Int.neg_tdiv]at this;omega
 refine zT mix Tryz.func301 Tryz.ntmps301 Tryz.results301 rfl rfl rfl ?_;simp only[qab,Nat.reduceAdd]
 repeat'(first|refine zQ ?_|(refine zC ?_ ?_<;>first|intro h|simp)|refine zE ?_|fail)
 all_goals first
  |(rw[←e,if_pos (by assumption)];done)
  |(rw[←e,if_neg (by assumption)];done)
  |trace_state
theorem qx4(a b:Int)(hb:0<b)(ha: -9000000000000000000≤a∧a≤9000000000000000000):Contract Tryz.prog 280 [.int .i64 a,.int .i64 b] (.ret (.int .i64 (a/b))):=by
 have e:=qBL (a:=a) hb
 have hq: -9000000000000000000≤a.tdiv b∧a.tdiv b≤9000000000000000000:=by
  rcases Int.le_total 0 a with h|h
  ·have:=qfl h hb;omega
  ·have:=qfl (a:= -a) (b:=b) (by omega) hb;rw[Int.neg_tdiv]at this;omega
 refine zT mix Tryz.func280 Tryz.ntmps280 Tryz.results280 rfl rfl rfl ?_;simp only[qab,Nat.reduceAdd]
 repeat'(first|refine zQ ?_|(refine zC ?_ ?_<;>first|intro h|simp)|refine zE ?_|fail)
 all_goals first
  |(rw[←e,if_pos (by assumption)];done)
  |(rw[←e,if_neg (by assumption)];done)
  |trace_state
theorem qhi{a b B:Int}(hb:0<b)(ha: -B≤a∧a≤B)(hB:0≤B): -B≤a/b∧a/b≤B:=by
 refine⟨(Int.le_ediv_iff_mul_le hb).2 ?_,?_⟩
 ·have:=Int.mul_le_mul_of_nonneg_left (show(1:Int)≤b by omega) hB
  rw[Int.neg_mul];omega
 ·have:a/b<B+1:=Int.ediv_lt_of_lt_mul hb (by
   have:=Int.mul_le_mul_of_nonneg_left (show(1:Int)≤b by omega) (show(0:Int)≤B+1 by omega)
   omega)
  omega
theorem qFi(a b:Int)(hb:0<b)(ha: -9000000000000000000≤a∧a≤9000000000000000000):Contract Tryz.prog 302 [.int .i64 a,.int .i64 b] (.ret (.int .i64 (-(-a/b)))):=by
 have hf:=qx3 (-a) b hb (by omega)
 have h2:=qhi (a:= -a) (b:=b) (B:=9000000000000000000) hb (by omega) (by omega)
 have e0:(0:Int)-a= -a:=by omega
 rw[←e0]at hf h2 ⊢
 refine zT mix Tryz.func302 Tryz.ntmps302 Tryz.results302 rfl rfl rfl ?_;simp only[qab,Nat.reduceAdd]
 repeat'(first|refine zQ ?_|refine zF hf ?_|refine zE ?_|fail)
 all_goals first|omega|trace_state
theorem qFj(a b:Int)(hb:0<b)(ha: -9000000000000000000≤a∧a≤9000000000000000000):Contract Tryz.prog 281 [.int .i64 a,.int .i64 b] (.ret (.int .i64 (-(-a/b)))):=by
 have hf:=qx4 (-a) b hb (by omega)
 have h2:=qhi (a:= -a) (b:=b) (B:=9000000000000000000) hb (by omega) (by omega)
 have e0:(0:Int)-a= -a:=by omega
 rw[←e0]at hf h2 ⊢
 refine zT mix Tryz.func281 Tryz.ntmps281 Tryz.results281 rfl rfl rfl ?_;simp only[qab,Nat.reduceAdd]
 repeat'(first|refine zQ ?_|refine zF hf ?_|refine zE ?_|fail)
 all_goals first|omega|trace_state
theorem qya:qzC Tryz.prog 182:=by
 intro va vb w
 refine callsD_of_wpS Tryz.func182 rfl fun c₀ cs hu=>?_
 apply wpS_seq
 apply wpS_region
 simp[wpOpsS,go_sem,recoverD,hu,Tryz.ntmps182,Exit.thenS]
 refine wpS_of_wp (wp_block (wp_seq (wp_region ?_)))
 simp[wpOps,go_sem,Exit.then,Array.replicate]
 left
 refine wp_cond (t:=true) (by simp[Act.eval]) ?_
 simp only[if_true]
 refine wp_region ?_
 simp[wpOps,go_sem,Exit.inBlock,bodyPostS,results,Tryz.results182]
 left
 cases c₀
 simp_all
theorem qvd{v:Value}{w:World}:(Instr.typeAssert (.iface 248 v) 20 248 true).run Tryz.prog w=.ok (.tuple #[v,.bool true]) w:=by
 simp only[Instr.typeAssert,Sem.run_bind,run_underlying (show Tryz.prog.underlying 248=some _ from Tryz.underlying248),Result.andThen_ok,if_true,Sem.run_pure]
theorem qoo(r c:Int):qEQ Tryz.prog 182 3 1 (.iface 248 (.agg [.int .i64 r,.int .i64 c])) 53 4 [.int .i64 0,.int .i64 c,.int .i64 r] true:=by
 intro base ow w va vb v hv hbase hm how ha hb
 obtain rfl:v=.iface 248 (.agg #[.int .i64 r,.int .i64 c]):=by
  cases hv with
  |iface _ v _ h=>
   obtain⟨vs,rfl,hl,hc⟩:=(Rep.pure (ow:=fun _=>.pending) _ _ h).agg_inv
   match vs,hl with
   |⟨[x,y]⟩,_=>
    have h0:=hc 0 x _ rfl rfl
    have h1:=hc 1 y _ rfl rfl
    cases h0 with|pure _ _ h0=>cases h1 with|pure _ _ h1=>cases h0;cases h1;rfl
 refine callsD_of_wpS Tryz.func182 rfl fun c₀ cs hu=>?_
 apply wpS_seq
 apply wpS_region
 simp[wpOpsS,go_sem,recoverD,hu,Tryz.ntmps182,Exit.thenS]
 refine wpS_of_wp (wp_block (wp_seq (wp_region ?_)))
 simp[wpOps,go_sem,Exit.then,Array.replicate]
 left
 refine wp_cond (t:=false) (by simp[Act.eval]) ?_
 simp only[Bool.false_eq_true,if_false]
 refine wp_seq (wp_region ?_)
 simp[wpOps,go_sem,Exit.then,Array.replicate,qvd]
 left;left;left
 refine wp_cond (t:=true) (by simp[Act.eval]) ?_
 simp only[if_true]
 let K:X→St→Prop:=fun x st=>x=.normal∧lkE st.env 0=.op 0 0 0∧lkE st.env 1=.op 1 0 0∧qhS Tryz.prog (lkH st.hp) 53 (.op 0 0 0)=some (.agg [.int .i64 0,.int .i64 c,.int .i64 r])∧qhS Tryz.prog (lkH st.hp) 4 (.op 1 0 0)=some (.bool true)
 obtain⟨pz,hpz⟩:∃pz:Nat→Prop,∀g,pz g↔g<w.heap.size∧¬(ow 0).on g∧¬(ow 1).on g:=⟨_,fun _=>Iff.rfl⟩
 have hzb:∀g,g<base→pz g:=fun g hg=>(hpz g).2 ⟨Nat.lt_of_lt_of_le hg hbase,fun h=>absurd (hm.ownO 0 g h).1 (by omega),fun h=>absurd (hm.ownO 1 g h).1 (by omega)⟩
 have hext:Ext w (fun _=>False) ow w pz ow:=⟨fun g hg=>hg.elim,fun _=>.inr (.inl rfl)⟩
 have hi:∀tm,tm= #[va,vb,undef,undef,undef,Value.iface 248 (.agg #[.int .i64 r,.int .i64 c]),undef,.bool false,.tuple #[.agg #[.int .i64 r,.int .i64 c],.bool true],.bool true,.agg #[.int .i64 r,.int .i64 c],undef,undef,undef,undef,undef]→
   qcb {w with heap:= #[]} ⟨fun _=>True,w,pz,ow,[]⟩ 2 ⟨[(0,.op 0 0 0),(1,.op 1 0 0),(10,.agg [.int .i64 r,.int .i64 c])],[(0,⟨3,false,[List.replicate 3 .undef]⟩),(1,⟨1,false,[List.replicate 1 .undef]⟩)],2,16⟩ ⟨tm,[]⟩ w:=by
  intro tm htm
  refine⟨pz,ow,⟨fun b blk hb2=>(hm.blk b blk hb2).mono hext fun _ _=>rfl,hm.none,hm.injO,fun b g h=>⟨Nat.zero_le _,fun hp=>?_⟩,fun g hg=>((hpz g).1 hg).1⟩,fun s=>?_,⟨rfl,rfl,rfl,Nat.zero_le _,fun k hk=>absurd hk (Nat.not_lt_zero k),.same rfl⟩,fun g hg=>.inl trivial,how,by rw[htm];rfl,rfl,fun g hg=>⟨hg,rfl⟩,fun b=>.inr rfl⟩
  ·obtain⟨-,n0,n1⟩:=(hpz g).1 hp
   rcases Nat.lt_or_ge b 2 with h2|h2
   ·match b,h2,h with
    |0,_,h=>exact n0 h
    |1,_,h=>exact n1 h
   ·rw[how b h2]at h;exact h
  ·simp only[lkE]
   split
   ·rename_i h;subst h;rw[htm];exact ha.mono hext
   ·split
    ·rename_i h;subst h;rw[htm];exact hb.mono hext
    ·split
     ·rename_i h;subst h;rw[htm]
      exact .pure _ _ (.agg _ _ rfl fun i v d h1 h2=>by
       match i,h1,h2 with
       |0,h1,h2=>simp at h1 h2;subst h1 h2;exact .int _ _
       |1,h1,h2=>simp at h1 h2;subst h1 h2;exact .int _ _
       |i+2,h1,h2=>simp at h1)
     ·exact .pure _ _ (.undef _)
 refine wp_mono (qsa (E:=E0) mix (fun _ _ _ _ he _=>he.elim) _ K _ _ w (.inr rfl) (hi _ rfl) ?_) ?_
 ·repeat'(first|refine zQ ?_|fail)
  exact⟨rfl,rfl,rfl,rfl,rfl⟩
 rintro e a2 w2 he
 cases e with
 |normal=>
  obtain⟨st,⟨-,e0,e1,l1,l2⟩,pu2,ow2,hm2,he2,hb2,hz2,hid2,hs2,hd2,hkp⟩:=he
  have back:∀n x v,lkH [(0,(⟨3,false,[List.replicate 3 .undef]⟩:Blk)),(1,⟨1,false,[List.replicate 1 .undef]⟩)] n=some x→Rep w (fun _=>False) ow v (.op n 0 0)→Rep w2 pu2 ow2 v (.op n 0 0):=fun n x v hx hv=>by
   obtain⟨g,o,z,h1,rfl,_⟩:=qwW hm hx hv
   rcases hkp.2 n with h|h
   ·exact absurd (h.symm.trans h1) (by simp)
   ·exact .opa n 0 0 g o _ z (h.trans h1)
  have hbase2:Below base w w2:=⟨hb2.os,hb2.tape,hb2.output,?_,fun k hk=>(hkp.1 k (hzb k hk)).2,hb2.drawn⟩
  ·refine⟨hd2,.panicking [{v:=Value.iface 248 (.agg #[.int .i64 r,.int .i64 c]),recovered:=true}],rfl,.tuple #[],?_,⟨_,rfl⟩,rfl,hbase2,pu2,ow2,st.hp,⟨hm2.blk,hm2.none,hm2.injO,fun b g h=>⟨?_,(hm2.ownO b g h).2⟩,hm2.zone⟩,back 0 _ va rfl ha,back 1 _ vb rfl hb,l1,l2⟩
   ·simp[results,Tryz.results182]
   ·rcases Nat.lt_or_ge g base with h'|h'
    ·exact absurd (hkp.1 g (hzb g h')).1 (hm2.ownO b g h).2
    ·exact h'
  ·rcases Nat.lt_or_ge w2.heap.size w.heap.size with hlt|hge
   ·exfalso
    have hl2:∀n x,lkH [(0,(⟨3,false,[List.replicate 3 .undef]⟩:Blk)),(1,⟨1,false,[List.replicate 1 .undef]⟩)] n=some x→¬(ow n).on (w.heap.size-1):=fun n x hx hon=>by
     rcases hkp.2 n with h|h
     ·exact(by rw[show ow n=.pending from h]at hon;exact hon)
     ·have:=hm2.on_lt (b:=n) (g:=w.heap.size-1) (by rw[h];exact hon)
      omega
    have:=hkp.1 (w.heap.size-1) ((hpz _).2 ⟨by omega,hl2 0 _ rfl,hl2 1 _ rfl⟩)
    have h3:=hm2.zone _ this.1
    omega
   ·exact hge
 |panic ch=>obtain⟨d,st,⟨h,_⟩,_⟩:=he;cases h
 |ret=>obtain⟨st,⟨h,_⟩,_⟩:=he;cases h
 |exit id=>obtain⟨st,⟨h,_⟩,_⟩:=he;cases h
 |_=>exact he.elim
end Go.Pv.Soil
namespace Go.Pv.Ord
variable {n:Nat}{R p:Nat→Nat→Int}
inductive Rch(n:Nat)(R:Nat→Nat→Int):Nat→Prop
 |zero:Rch n R 0
 |step {s k:Nat}:Rch n R s→k<n→nx R s k=true→Rch n R (s|||2^k)
def cz:Nat→Nat→Nat
 |0,_=>0
 |n+1,s=>cz n s+if s.testBit n then 0 else 1
theorem qtE{s t:Nat}:∀{n:Nat},(∀j,j<n→s.testBit j=t.testBit j)→cz n s=cz n t
 |0,_=>rfl
 |n+1,h=>by simp only[cz,h n (Nat.lt_succ_self n),qtE (n:=n) fun j hj=>h j (by omega)]
theorem tb_or(s k j:Nat):(s|||2^k).testBit j=(s.testBit j||decide (k=j)):=by
 rw[Nat.testBit_or,Nat.testBit_two_pow]
theorem qvl{s k:Nat}(hs:s.testBit k=false):∀{n:Nat},k<n→cz n s=cz n (s|||2^k)+1
 |n+1,h=>by
  simp only[cz,tb_or]
  by_cases e:k=n
  ·subst e
   rw[hs,qtE (s:=s|||2^k) (t:=s) fun j hj=>by rw[tb_or,decide_eq_false (by omega),Bool.or_false]]
   simp
  ·rw[qvl hs (n:=n) (by omega),decide_eq_false e,Bool.or_false]
   omega
theorem ql2:∀{n:Nat},cz n 0=n
 |0=>rfl
 |n+1=>by simp[cz,ql2 (n:=n)]
theorem qBR{s:Nat}:∀{n:Nat},cz n s=0→∀j,j<n→s.testBit j=true
 |n+1,h,j,hj=>by
  simp only[cz]at h
  by_cases e:j=n
  ·subst e
   cases hb:s.testBit j with
   |true=>rfl
   |false=>rw[hb]at h;simp at h
  ·exact qBR (n:=n) (by omega) j (by omega)
theorem qjs{s n:Nat}(hs:s<2^n)(h:cz n s=0):s=2^n-1:=by
 apply Nat.eq_of_testBit_eq
 intro j
 rw[Nat.testBit_two_pow_sub_one]
 rcases Nat.lt_or_ge j n with hj|hj
 ·rw[qBR h j hj];simp[hj]
 ·rw[Nat.testBit_lt_two_pow (Nat.lt_of_lt_of_le hs (Nat.pow_le_pow_right (by omega) hj))]
  simp;omega
theorem ql3:∀{n m:Nat},n≤m→cz n (2^m-1)=0
 |0,_,_=>rfl
 |n+1,m,h=>by simp[cz,ql3 (n:=n) (m:=m) (by omega),Nat.testBit_two_pow_sub_one,show n<m by omega]
theorem qqj{s k n:Nat}(hs:s<2^n)(hk:k<n):s|||2^k<2^n:=Nat.or_lt_two_pow hs (Nat.pow_lt_pow_right (by omega) hk)
theorem or_add{s k:Nat}(h:s.testBit k=false):s|||2^k=s+2^k:=by
 apply Nat.eq_of_testBit_eq
 intro j
 rw[tb_or]
 have e:s+2^k=2^k+s:=Nat.add_comm _ _
 rcases Nat.lt_trichotomy j k with hj|hj|hj
 ·rw[e,Nat.testBit_two_pow_add_gt hj,decide_eq_false (by omega),Bool.or_false]
 ·subst hj
  rw[e,Nat.testBit_two_pow_add_eq,h]
  simp
 ·rw[decide_eq_false (by omega),Bool.or_false]
  have h2:s/2^k%2=0:=by
   rw[Nat.testBit_eq_decide_div_mod_eq]at h
   have:=of_decide_eq_false h
   omega
  have h3:(s+2^k)/2^(k+1)=s/2^(k+1):=by
   have e1:s/2^(k+1)=s/2^k/2:=by rw[Nat.div_div_eq_div_mul,Nat.pow_succ]
   have e2:(s+2^k)/2^(k+1)=(s+2^k)/2^k/2:=by rw[Nat.div_div_eq_div_mul,Nat.pow_succ]
   rw[e1,e2,Nat.add_div_right _ (Nat.two_pow_pos k)]
   omega
  have h4:∀a:Nat,a.testBit j=(a/2^(k+1)).testBit (j-(k+1)):=fun a=>by
   rw[Nat.testBit_div_two_pow]
   congr 1
   omega
  rw[h4 s,h4 (s+2^k),h3]
theorem qDA{s k:Nat}(h:s.testBit k=false):s<s|||2^k:=by
 rw[or_add h]
 have:=Nat.two_pow_pos k
 omega
theorem nx_bit{s k:Nat}(h:nx R s k=true):s.testBit k=false:=by
 simp only[nx,Bool.and_eq_true,Bool.not_eq_true']at h
 exact h.1
theorem qFA{s:Nat}(h:Rch n R s):s<2^n:=by
 induction h with
 |zero=>exact Nat.two_pow_pos n
 |step _ hk _ ih=>exact qqj ih hk
theorem qyp{m s:Nat}:ordL n R (m+1) s≠[]↔∃k,k<n∧nx R s k=true∧ordL n R m (s|||2^k)≠[]:=by
 constructor
 ·intro h
  obtain⟨x,hx⟩:=List.exists_mem_of_ne_nil _ h
  obtain⟨k,hk,hx⟩:=List.mem_flatMap.1 hx
  split at hx
  ·rename_i hn
   obtain⟨y,hy,_⟩:=List.mem_map.1 hx
   exact⟨k,List.mem_range.1 hk,hn,List.ne_nil_of_mem hy⟩
  ·simp at hx
 ·rintro⟨k,hk,hn,h⟩
  obtain⟨x,hx⟩:=List.exists_mem_of_ne_nil _ h
  exact List.ne_nil_of_mem (List.mem_flatMap.2 ⟨k,List.mem_range.2 hk,by rw[if_pos hn];exact List.mem_map.2 ⟨x,hx,rfl⟩⟩)
theorem qDB{s:Nat}(h:Rch n R s):ordL n R (cz n s) s≠[]→ordL n R n 0≠[]:=by
 induction h with
 |zero=>rw[ql2];exact fun h=>h
 | @step s k _ hk hn ih=>
   intro h
   apply ih
   rw[qvl (nx_bit hn) hk]
   exact qyp.2 ⟨k,hk,hn,h⟩
theorem qyq:∀{m s:Nat},Rch n R s→cz n s=m→ordL n R m s≠[]→Rch n R (2^n-1)
 |0,s,h,hc,_=>by rw[←qjs (qFA h) hc];exact h
 |m+1,s,h,hc,ho=>by
  obtain⟨k,hk,hn,h2⟩:=qyp.1 ho
  exact qyq (.step h hk hn) (by have:=qvl (nx_bit hn) hk;omega) h2
theorem qyr:ordL n R n 0≠[]↔Rch n R (2^n-1):=
 ⟨fun h=>qyq .zero ql2 h,fun h=>qDB h (by rw[ql3 (Nat.le_refl n)];simp[ordL])⟩
theorem no_order{S:Nat→Prop}(h0:S 0)(hc:∀s k,S s→k<n→nx R s k=true→S (s|||2^k))(hf:¬S (2^n-1)):ordL n R n 0=[]:=by
 refine Classical.byContradiction fun h=>hf ?_
 have:∀s,Rch n R s→S s:=fun s hs=>by
  induction hs with
  |zero=>exact h0
  |step _ hk hn ih=>exact hc _ _ ih hk hn
 exact this _ (qyr.1 h)
def stepR(R:Nat→Nat→Int)(s:Nat)(arr:List Bool)(k:Nat):List Bool:=if nx R s k=true then arr.set (s|||2^k) true else arr
def qEb(n:Nat)(R:Nat→Nat→Int)(arr:List Bool)(s:Nat):List Bool:=if arr.getD s false=true then(List.range n).foldl (stepR R s) arr else arr
def ql4(n:Nat)(R:Nat→Nat→Int)(s:Nat):List Bool:=(List.range s).foldl (qEb n R) ((List.replicate (2^n) false).set 0 true)
theorem ql5(s:Nat):ql4 n R (s+1)=qEb n R (ql4 n R s) s:=by simp[ql4,List.range_succ]
theorem qqk{s:Nat}{arr:List Bool}(ks:List Nat):(ks.foldl (stepR R s) arr).length=arr.length:=by
 induction ks generalizing arr with
 |nil=>rfl
 |cons k ks ih=>rw[List.foldl_cons,ih];unfold stepR;split<;>simp
theorem qAD(arr:List Bool)(s:Nat):(qEb n R arr s).length=arr.length:=by
 unfold qEb;split
 ·exact qqk _
 ·rfl
theorem qow:∀(s:Nat),(ql4 n R s).length=2^n
 |0=>by simp[ql4]
 |s+1=>by rw[ql5,qAD,qow s]
theorem qaU{arr:List Bool}{i t:Nat}(hi:i<arr.length):(arr.set i true).getD t false=true↔arr.getD t false=true∨t=i:=by
 simp only[List.getD_eq_getElem?_getD,List.getElem?_set]
 by_cases h:i=t
 ·subst h;simp[hi]
 ·simp[h,Ne.symm h]
theorem qql{s t:Nat}(hs:s<2^n):∀(ks:List Nat) (arr:List Bool),arr.length=2^n→(∀k∈ks,k<n)→((ks.foldl (stepR R s) arr).getD t false=true↔arr.getD t false=true∨∃k∈ks,nx R s k=true∧t=s|||2^k)
 |[],arr,_,_=>by simp
 |k::ks,arr,ha,hk=>by
  rw[List.foldl_cons,qql hs ks _ (by unfold stepR;split<;>simp[ha]) fun j hj=>hk j (List.mem_cons_of_mem _ hj)]
  have e:(stepR R s arr k).getD t false=true↔arr.getD t false=true∨(nx R s k=true∧t=s|||2^k):=by
   unfold stepR
   split
   ·rename_i h
    rw[qaU (by rw[ha];exact qqj hs (hk k (by simp)))]
    simp[h]
   ·rename_i h;simp[h]
  rw[e]
  constructor
  ·rintro((h|h)|⟨j,h1,h2⟩)
   ·exact .inl h
   ·exact .inr ⟨k,by simp,h⟩
   ·exact .inr ⟨j,by simp[h1],h2⟩
  ·rintro(h|⟨j,h1,h2⟩)
   ·exact .inl (.inl h)
   ·rcases List.mem_cons.1 h1 with rfl|h1
    ·exact .inl (.inr h2)
    ·exact .inr ⟨j,h1,h2⟩
theorem qtF{t:Nat}(h:Rch n R t):t=0∨∃s k,Rch n R s∧k<n∧nx R s k=true∧t=s|||2^k:=by
 cases h with
 |zero=>exact .inl rfl
 | @step s k h1 h2 h3=>exact .inr ⟨s,k,h1,h2,h3,rfl⟩
theorem qys:∀(s:Nat),s≤2^n→∀t,((ql4 n R s).getD t false=true↔t=0∨∃s' k,s'<s∧Rch n R s'∧k<n∧nx R s' k=true∧t=s'|||2^k)
 |0,_,t=>by
  simp only[ql4,List.range_zero,List.foldl_nil]
  rw[qaU (by simp;exact Nat.two_pow_pos n)]
  have:(List.replicate (2^n) false).getD t false=false:=by
   rw[List.getD_eq_getElem?_getD,List.getElem?_replicate]
   split<;>rfl
  rw[this]
  simp
 |s+1,hs,t=>by
  have ih:=qys s (by omega)
  have hr:(ql4 n R s).getD s false=true↔Rch n R s:=by
   rw[ih s]
   constructor
   ·rintro(rfl|⟨s',k,_,h1,h2,h3,rfl⟩)
    ·exact .zero
    ·exact .step h1 h2 h3
   ·intro h
    rcases qtF h with h|⟨s',k,h1,h2,h3,e⟩
    ·exact .inl h
    ·refine .inr ⟨s',k,?_,h1,h2,h3,e⟩
     rw[e];exact qDA (nx_bit h3)
  rw[ql5]
  unfold qEb
  split
  ·rename_i h
   rw[qql (by omega) _ _ (qow s) fun k hk=>List.mem_range.1 hk,ih t]
   constructor
   ·rintro((h1|⟨s',k,h1,h2⟩)|⟨k,h1,h2,h3⟩)
    ·exact .inl h1
    ·exact .inr ⟨s',k,by omega,h2⟩
    ·exact .inr ⟨s,k,by omega,hr.1 h,List.mem_range.1 h1,h2,h3⟩
   ·rintro(h1|⟨s',k,h1,h2,h3,h4,h5⟩)
    ·exact .inl (.inl h1)
    ·rcases Nat.lt_succ_iff_lt_or_eq.1 h1 with h1|rfl
     ·exact .inl (.inr ⟨s',k,h1,h2,h3,h4,h5⟩)
     ·exact .inr ⟨k,List.mem_range.2 h3,h4,h5⟩
  ·rename_i h
   rw[ih t]
   constructor
   ·rintro(h1|⟨s',k,h1,h2⟩)
    ·exact .inl h1
    ·exact .inr ⟨s',k,by omega,h2⟩
   ·rintro(h1|⟨s',k,h1,h2,h3⟩)
    ·exact .inl h1
    ·rcases Nat.lt_succ_iff_lt_or_eq.1 h1 with h1|rfl
     ·exact .inr ⟨s',k,h1,h2,h3⟩
     ·exact absurd (hr.2 h2) h
theorem qH9{s t:Nat}(hs:s≤2^n)(ht:t≤s):(ql4 n R s).getD t false=true↔Rch n R t:=by
 rw[qys s hs t]
 constructor
 ·rintro(rfl|⟨s',k,_,h1,h2,h3,rfl⟩)
  ·exact .zero
  ·exact .step h1 h2 h3
 ·intro h
  rcases qtF h with h|⟨s',k,h1,h2,h3,e⟩
  ·exact .inl h
  ·refine .inr ⟨s',k,?_,h1,h2,h3,e⟩
   have:=qDA (s:=s') (nx_bit h3)
   rw[←e]at this
   omega
variable {n:Nat}{R p:Nat→Nat→Int}
def qgW(n:Nat)(R p:Nat→Nat→Int)(t:Nat):List (Option Int):=(List.range (2^n)).map fun s=>if t≤s then planO n R p (cz n s) s else none
theorem qfe{t:Nat}:(qgW n R p t).length=2^n:=by simp[qgW]
theorem qjt{t s:Nat}(hs:s<2^n):(qgW n R p t)[s]'(by rw[qfe];exact hs)=if t≤s then planO n R p (cz n s) s else none:=by simp[qgW]
def qfY(n:Nat)(R p:Nat→Nat→Int)(t k:Nat):List (Option Int):=(qgW n R p (t+1)).set t (best ((List.range k).map (qhK n R p (cz n t-1) t)))
theorem qgX{t k:Nat}:(qfY n R p t k).length=2^n:=by simp[qfY,qfe]
theorem qyt{t:Nat}:qfY n R p t 0=qgW n R p (t+1):=by
 apply List.ext_getElem
 ·rw[qgX,qfe]
 ·intro i h1 h2
  have hi:i<2^n:=by rw[qfe]at h2;exact h2
  simp only[qfY,List.getElem_set]
  split
  ·rename_i e
   subst e
   rw[qjt hi,if_neg (by omega)]
   rfl
  ·rfl
theorem qqm{t:Nat}(h:t<2^n-1):0<cz n t:=by
 rcases Nat.eq_zero_or_pos (cz n t)with e|e
 ·have:=qjs (by omega) e
  omega
 ·exact e
theorem qyu{t:Nat}(h:t<2^n-1):qfY n R p t n=qgW n R p t:=by
 have hp:=qqm h
 obtain⟨m,hm⟩:∃m,cz n t=m+1:=⟨cz n t-1,by omega⟩
 apply List.ext_getElem
 ·rw[qgX,qfe]
 ·intro i h1 h2
  have hi:i<2^n:=by rw[qfe]at h2;exact h2
  simp only[qfY,List.getElem_set,qjt hi]
  split
  ·rename_i e
   subst e
   rw[if_pos (Nat.le_refl _),hm,qjr]
   rfl
  ·rename_i e
   by_cases h3:t+1≤i
   ·rw[if_pos h3,if_pos (by omega)]
   ·rw[if_neg h3,if_neg (by omega)]
theorem qyv{t k j:Nat}(ht:t<2^n)(hj:j<n)(hb:t.testBit j=false):(qfY n R p t k)[t|||2^j]'(by rw[qgX];exact qqj ht hj)=planO n R p (cz n t-1) (t|||2^j):=by
 have h1:=qDA hb
 have h2:=qvl hb hj
 simp only[qfY,List.getElem_set]
 rw[if_neg (by omega),qjt (qqj ht hj),if_pos (by omega)]
 congr 1
 omega
theorem qtG{t k:Nat}(ht:t<2^n):(qfY n R p t k)[t]'(by rw[qgX];exact ht)=best ((List.range k).map (qhK n R p (cz n t-1) t)):=by
 simp only[qfY,List.getElem_set,if_true]
theorem qyw{t k m:Nat}:best ((List.range (k+1)).map (qhK n R p m t))=upd (best ((List.range k).map (qhK n R p m t))) (qhK n R p m t k):=by
 rw[List.range_succ,List.map_append,List.map_singleton,qqi]
theorem qqn{t k:Nat}:qfY n R p t (k+1)=(qfY n R p t k).set t (upd (best ((List.range k).map (qhK n R p (cz n t-1) t))) (qhK n R p (cz n t-1) t k)):=by
 simp only[qfY,List.set_set,qyw]
theorem qAE{c:Option Int}:upd c none=c:=rfl
theorem set_same{α:Type}{l:List α}{i:Nat}{a:α}(hi:i<l.length)(h:l[i]=a):l.set i a=l:=by
 subst h
 simp
theorem qqo{t k:Nat}(ht:t<2^n)(h:qhK n R p (cz n t-1) t k=none):qfY n R p t (k+1)=qfY n R p t k:=by
 rw[qqn,h,qAE]
 exact set_same (by rw[qgX];exact ht) (qtG ht)
def setP(l:List Nat):Nat:=l.foldl (fun s k=>s|||2^k) 0
theorem setP_snoc{l:List Nat}{k:Nat}:setP (l++[k])=setP l|||2^k:=by simp[setP]
theorem qqp{m s:Nat}{c:Int}(h:planO n R p (m+1) s=some c):∃k,k<n∧nx R s k=true∧qhK n R p m s k=some c∧(∀j,j<k→qhK n R p m s j≠some c)∧qbn n R p (m+1) s=k::qbn n R p m (s|||2^k)∧(planO n R p m (s|||2^k)).isSome=true:=by
 obtain⟨⟨l1,l2,e,_,_⟩,_⟩:=(plan_first (m+1) s).2 c h
 have hp:qbn n R p (m+1) s=match(List.range n).find? fun k=>decide (qhK n R p m s k=some c)with
   |some k=>k::qbn n R p m (s|||2^k)
   |none=>[]:=by simp only[qbn,h];rfl
 cases hf:(List.range n).find? fun k=>decide (qhK n R p m s k=some c)with
 |none=>
  rw[hf]at hp
  simp only at hp
  have hm:qbn n R p (m+1) s∈ordL n R (m+1) s:=by rw[e];simp
  rw[hp]at hm
  obtain⟨k,_,hk⟩:=List.mem_flatMap.1 hm
  split at hk
  ·obtain⟨y,_,hy⟩:=List.mem_map.1 hk
   cases hy
  ·cases hk
 |some k=>
  rw[hf]at hp
  simp only at hp
  have hv:qhK n R p m s k=some c:=by have h9:=List.find?_some hf;simpa using h9
  have hk:k<n:=List.mem_range.1 (List.mem_of_find?_eq_some hf)
  have hn:nx R s k=true:=by
   unfold qhK at hv
   split at hv
   ·assumption
   ·cases hv
  refine⟨k,hk,hn,hv,fun j hj hj2=>?_,hp,?_⟩
  ·rw[List.find?_eq_some_iff_getElem]at hf
   obtain⟨_,i,hi,e1,h2⟩:=hf
   simp only[List.getElem_range]at e1
   subst e1
   have:=h2 j hj
   simp[hj2]at this
  ·unfold qhK at hv
   rw[if_pos hn]at hv
   obtain⟨q,hq,_⟩:=Option.map_eq_some_iff.1 hv
   rw[hq];rfl
end Go.Pv.Ord

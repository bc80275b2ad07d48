import Derived.Test.YtfklpkgdobdbpaaGreatCAR
import Derived.Test.YtfklpkgdobdbpaaGreatCAT
/- Part of the proofs over YtfklpkgdobdbpaaGreat: N9. -/
set_option linter.unusedVariables false
set_option linter.unusedSimpArgs false
set_option linter.unnecessarySimpa false
open Go Go.Proofs Go.Pv
set_option maxHeartbeats 8000000
set_option maxRecDepth 100000
set_option linter.unusedSimpArgs false
set_option linter.unusedVariables false
namespace Go.Pv.Soil
theorem qrq{s:List Soil}{l:List Dred}(h:6<l.length):8=qen s l:=by unfold qen;rw[if_pos h]
theorem qrr{s:List Soil}{l:List Dred}(h:¬6<l.length):qen s l=qct l.length (qlo s l):=by unfold qen;rw[if_neg h]
theorem qhW{s:List Soil}{l:List Dred}{i:Nat}(hi:i<l.length):qlo s l i=if qet l[i]≠0 then qet l[i]else if((l.take i).any fun h=>decide (h.name=l[i].name))=true then 5 else if(l[i].outs.any fun o=>decide (qa9 s o.soil<0))=true then 6 else 0:=by
 simp only[qlo,List.getElem?_eq_getElem hi]
theorem qp1{s:List Soil}{l:List Dred}{i:Nat}(hi:i<l.length)(h:qet l[i]≠0):qlo s l i=qet l[i]:=by rw[qhW hi,if_pos h]
theorem qvC{s:List Soil}{l:List Dred}{i:Nat}(hi:i<l.length)(h:qet l[i]=0)(h2:((l.take i).any fun h=>decide (h.name=l[i].name))=true):qlo s l i=5:=by rw[qhW hi,if_neg (not_not_intro h),if_pos h2]
theorem qvD{s:List Soil}{l:List Dred}{i:Nat}(hi:i<l.length)(h:qet l[i]=0)(h2:((l.take i).any fun h=>decide (h.name=l[i].name))=false){k:Nat}(hk:k<l[i].outs.length)(h3:qa9 s l[i].outs[k].soil<0):qlo s l i=6:=by
 rw[qhW hi,if_neg (not_not_intro h),if_neg (by simp[h2]),if_pos]
 exact List.any_eq_true.2 ⟨_,List.getElem_mem hk,decide_eq_true h3⟩
theorem qvE{s:List Soil}{l:List Dred}{i:Nat}(hi:i<l.length)(h:qet l[i]=0)(h2:((l.take i).any fun h=>decide (h.name=l[i].name))=false)(h3:∀j (hj:j<l[i].outs.length),¬qa9 s l[i].outs[j].soil<0):qlo s l i=0:=by
 rw[qhW hi,if_neg (not_not_intro h),if_neg (by simp[h2]),if_neg]
 rw[Bool.not_eq_true]
 refine List.any_eq_false.2 fun o ho=>?_
 obtain⟨j,hj,rfl⟩:=List.mem_iff_getElem.1 ho
 simpa using h3 j hj
theorem qx8(x:Soil)(o:Outp):Contract Tryz.prog 173 [.agg (qaC x),.ptr (qbN o)] (.ret (.bool (decide (x.name=o.soil)))):=by
 refine zT mix Tryz.func173 Tryz.ntmps173 Tryz.results173 rfl rfl rfl ?_;simp only[qac,Nat.reduceAdd]
 repeat'(first|(with_reducible rfl)|refine zQ ?_|((with_reducible apply qaG);rfl;rfl)|refine zE ?_|fail)
theorem qx9{s:List Soil}{n:ByteArray}:(s.any fun x=>decide (x.name=n))=decide (0≤qa9 s n):=qcI.symm
theorem qkL(s:Site)(hs:s.ground.soils.length<1000000000000)(hl:s.dreds.length≤9223372036854775807)(hol:∀d∈s.dreds,d.outs.length≤9223372036854775807):Contract Tryz.prog 96 [.agg (encSite s)] (.ret (.int .i64 (qen s.ground.soils s.dreds))):=by
 refine zT mix Tryz.func96 Tryz.ntmps96 Tryz.results96 rfl rfl rfl ?_;simp only[qac,Nat.reduceAdd]
 repeat'(first|((with_reducible (show evG _ _ (.region 3 _ _) _ _));(with_reducible apply qcb))|((with_reducible apply qek);rfl)|(with_reducible apply qgK)|(with_reducible apply qdD)|(with_reducible apply qeH)|refine zS ?_|refine zA ?_|(refine zC ?_ ?_<;>first|intro h|simp)|refine zE ?_|fail)
 ·exact qrq (by omega)
 rw[qrr (by omega)]
 refine qaf s.dreds.length (fun i=>⟨[(3,.om 0),(17,.int .i64 i),(15,.sl (s.dreds.map encDred)),(16,.int .i64 s.dreds.length),(1,.op 1 0 0)],[(0,⟨0,true,(s.dreds.take i).map fun x=>[.str x.name,.bool true]⟩),(1,⟨12,true,[encSite s]⟩)],64,48⟩) (fun i=>∀j,j<i→qlo s.ground.soils s.dreds j=0) (qaa (nx:=64) (k:=0) (ns:=[]) (ks:=[3,17,15,16,1]) [(192,0),(0,1)] rfl (by simp) (by kernel_rfl)) (by omega) ?_
 intro i hi hC
 by_cases hL:i<s.dreds.length
 rotate_left
 ·repeat'(first|refine zQ ?_|(refine zI ?_;intro hlt)|(refine zC ?_ ?_<;>first|intro h|simp)|refine zE ?_|fail)
  all_goals first
   |exact absurd hL (by omega)
   |exact(qaB fun j hj=>hC j (by omega)).symm
   |trace_state
 have hd8:=hol _ (List.getElem_mem hL)
 have h1:=qgN s.dreds[i] hd8
 by_cases ha:((s.dreds.take i).any fun y=>decide (y.name=s.dreds[i].name))=true
 ·have hf:=qhS (nm:=fun x:Dred=>x.name) ha
  repeat'(first|((with_reducible apply qcl);rfl;rfl;rfl;rfl;(exact hf);rfl;rfl)|refine zS ?_|refine zA ?_|refine zF h1 ?_|(refine zI ?_;intro hlt)|(refine zC ?_ ?_<;>first|intro h|simp)|refine zE ?_|fail)
  all_goals first
   |exact absurd hL (by omega)
   |exact qaq hL hC (qp1 hL (by assumption)) (by assumption)
   |exact qaq hL hC (qvC hL (by assumption) ha) (by decide)
   |trace_state
 have ha':((s.dreds.take i).any fun y=>decide (y.name=s.dreds[i].name))=false:=by simpa using ha
 have hf:=qkI (nm:=fun x:Dred=>x.name) ha'
 repeat'(first|((with_reducible apply qcl);rfl;rfl;rfl;rfl;(exact hf);rfl;rfl)|((with_reducible (show evG _ _ (.region 12 _ _) _ _));(with_reducible apply qcb))|((with_reducible apply qeU);rfl;rfl;rfl;rfl;rfl;rfl;(exact hf);rfl)|(with_reducible apply qgK)|(with_reducible apply qdD)|(with_reducible apply qeH)|refine zS ?_|refine zA ?_|refine zF h1 ?_|(refine zI ?_;intro hlt)|(refine zC ?_ ?_<;>first|intro h|simp)|refine zE ?_|fail)
 all_goals first
  |exact absurd hL (by omega)
  |exact qaq hL hC (qp1 hL (by assumption)) (by assumption)
  |skip
 refine qaf s.dreds[i].outs.length (fun j=>⟨[(36,.int .i64 j),(34,.sl (s.dreds[i].outs.map qbN)),(35,.int .i64 s.dreds[i].outs.length),(3,.om 0),(17,.int .i64 i),(15,.sl (s.dreds.map encDred)),(16,.int .i64 s.dreds.length),(1,.op 1 0 0)],[(0,⟨0,true,((s.dreds.take i).map fun x=>[.str x.name,.bool true])++[[.str s.dreds[i].name,.bool true]]⟩),(1,⟨12,true,[encSite s]⟩)],64,48⟩) (fun j=>∀m (hm:m<j) (hm':m<s.dreds[i].outs.length),¬qa9 s.ground.soils s.dreds[i].outs[m].soil<0)
  (qaa (nx:=64) (k:=0) (ns:=[]) (ks:=[36,34,35,3,17,15,16,1]) [(0,0),(1,1)] rfl (by simp) (by kernel_rfl)) (by omega) ?_
 intro j hj hJ
 by_cases hM:j<s.dreds[i].outs.length
 ·have h3:=qH2 s.ground.soils hs 173 [.ptr (qbN s.dreds[i].outs[j])] (fun _ _=>rfl) rfl (fun x=>decide (x.name=s.dreds[i].outs[j].soil)) fun x _=>qx8 x _
  rw[qx9]at h3
  by_cases hk:qa9 s.ground.soils s.dreds[i].outs[j].soil<0
  ·rw[decide_eq_false (by omega)]at h3
   repeat'(first|refine zQ ?_|refine zF h3 ?_|(refine zI ?_;intro hlt)|(refine zC ?_ ?_<;>first|intro h|simp)|refine zE ?_|fail)
   all_goals first
    |exact absurd hM (by omega)
    |exact qaq hL hC (qvD hL (by assumption) ha' hM hk) (by decide)
    |trace_state
  ·rw[decide_eq_true (by omega)]at h3
   repeat'(first|refine zQ ?_|refine zF h3 ?_|(refine zI ?_;intro hlt)|(refine zC ?_ ?_<;>first|intro h|simp)|fail)
   all_goals first
    |exact absurd hM (by omega)
    |(refine⟨by omega,fun m hm hm'=>?_,qaa (nx:=64) (k:=0) (ns:=[]) (ks:=[36,34,35,3,17,15,16,1]) [(0,0),(1,1)] rfl (by simp) (by kernel_rfl)⟩
      rcases Nat.lt_succ_iff_lt_or_eq.1 hm with h'|rfl
      ·exact hJ m h' hm'
      ·exact hk)
    |trace_state
 ·repeat'(first|refine zQ ?_|(refine zI ?_;intro hlt)|(refine zC ?_ ?_<;>first|intro h|simp)|fail)
  all_goals first
   |exact absurd hM (by omega)
   |(refine⟨hL,qaJ hC (qvE hL (by assumption) ha' fun m hm=>hJ m (by omega) hm),?_⟩
     show qck _ ⟨[(3,.om 0),(17,.int .i64 (i+1:Nat)),(15,.sl (s.dreds.map encDred)),(16,.int .i64 s.dreds.length),(1,.op 1 0 0)],[(0,⟨0,true,(s.dreds.take (i+1)).map fun x=>[.str x.name,.bool true]⟩),(1,⟨12,true,[encSite s]⟩)],64,48⟩
     rw[List.take_succ_eq_append_getElem hL,List.map_append]
     exact qaa (nx:=64) (k:=0) (ns:=[]) (ks:=[3,17,15,16,1]) [(0,0),(1,1)] rfl (by simp) (by kernel_rfl))
   |trace_state
theorem qkM(s:Site)(hs:s.ground.soils.length<1000000000000)(hl:s.dreds.length≤9223372036854775807)(hol:∀d∈s.dreds,d.outs.length≤9223372036854775807):Contract Tryz.prog 102 [.agg (encSite s)] (.ret (.int .i64 (qen s.ground.soils s.dreds))):=by
 refine zT mix Tryz.func102 Tryz.ntmps102 Tryz.results102 rfl rfl rfl ?_;simp only[qac,Nat.reduceAdd]
 repeat'(first|refine zQ ?_|(refine zC ?_ ?_<;>first|intro h|simp)|refine zE ?_|fail)
 ·exact qrq (by omega)
 rw[qrr (by omega)]
 refine qaf s.dreds.length (fun i=>⟨[(3,.int .i64 i),(1,.op 0 0 0)],[(0,⟨12,true,[encSite s]⟩)],32,61⟩) (fun i=>∀j,j<i→qlo s.ground.soils s.dreds j=0) (qaa (nx:=32) (k:=0) (ns:=[]) (ks:=[3,1]) [(0,0)] rfl (by simp) (by kernel_rfl)) (by omega) ?_
 intro i hi hC
 by_cases hL:i<s.dreds.length
 rotate_left
 ·repeat'(first|refine zQ ?_|(refine zI ?_;intro hlt)|(refine zC ?_ ?_<;>first|intro h|simp)|refine zE ?_|fail)
  all_goals first
   |exact absurd hL (by omega)
   |exact(qaB fun j hj=>hC j (by omega)).symm
   |trace_state
 have hd8:=hol _ (List.getElem_mem hL)
 have h1:=qgO s.dreds[i] hd8
 repeat'(first|refine zQ ?_|refine zF h1 ?_|(refine zI ?_;intro hlt)|(refine zC ?_ ?_<;>first|intro h|simp)|refine zE ?_|fail)
 all_goals first
  |exact absurd hL (by omega)
  |exact qaq hL hC (qp1 hL (by assumption)) (by assumption)
  |skip
 refine qaf i (fun k=>⟨[(6,.int .i64 k),(3,.int .i64 i),(1,.op 0 0 0),(4,.op 1 0 0)],[(0,⟨12,true,[encSite s]⟩),(1,⟨8,false,[encDred s.dreds[i]]⟩)],64,61⟩) (fun k=>∀j (hj:j<k),¬(s.dreds[j]?.map (·.name)=some s.dreds[i].name)) (qaa (nx:=64) (k:=0) (ns:=[]) (ks:=[6,3,1,4]) [(0,0),(352,1)] rfl (by simp) (by kernel_rfl)) (by omega) ?_
 intro k hk hK
 by_cases hlk:k<i
 ·have hkl:k<s.dreds.length:=by omega
  repeat'(first|refine zQ ?_|(refine zI ?_;intro hlt)|(refine zC ?_ ?_<;>first|intro h|simp)|((with_reducible apply qaG);rfl;rfl)|refine zE ?_|fail)
  all_goals try simp only[Int.toNat_natCast]at*
  all_goals first
   |exact absurd hlk (by omega)
   |exact qaq hL hC (qvC hL (by assumption) (qhT hlk hkl (by assumption))) (by decide)
   |(refine⟨by omega,qf0 hkl hK (by assumption),qaa (nx:=64) (k:=0) (ns:=[]) (ks:=[6,3,1,4]) [(0,0),(1,1)] rfl (by simp) (by kernel_rfl)⟩)
   |trace_state
 obtain rfl:k=i:=by omega
 have ha':=qkJ hK
 repeat'(first|refine zQ ?_|(refine zI ?_;intro hlt)|(refine zC ?_ ?_<;>first|intro h|simp)|((with_reducible apply qaG);rfl;rfl)|refine zE ?_|fail)
 all_goals try exact absurd (show k<k by omega) hlk
 refine qaf s.dreds[k].outs.length (fun j=>⟨[(7,.int .i64 j),(3,.int .i64 k),(1,.op 0 0 0),(4,.op 1 0 0)],[(0,⟨12,true,[encSite s]⟩),(1,⟨8,false,[encDred s.dreds[k]]⟩)],64,61⟩) (fun j=>∀m (hm:m<j) (hm':m<s.dreds[k].outs.length),¬qa9 s.ground.soils s.dreds[k].outs[m].soil<0)
  (qaa (nx:=64) (k:=0) (ns:=[]) (ks:=[7,3,1,4]) [(0,0),(1,1)] rfl (by simp) (by kernel_rfl)) (by omega) ?_
 intro j hj hJ
 by_cases hM:j<s.dreds[k].outs.length
 ·have h3:=c84 s.ground.soils hs s.dreds[k].outs[j].soil
  repeat'(first|refine zQ ?_|refine zF h3 ?_|(refine zI ?_;intro hlt)|(refine zC ?_ ?_<;>first|intro h|simp)|refine zE ?_|fail)
  all_goals try simp only[Int.toNat_natCast]at*
  all_goals first
   |exact absurd hM (by omega)
   |exact qaq hL hC (qvD hL (by assumption) ha' hM (by assumption)) (by decide)
   |(refine⟨by omega,fun m hm hm'=>?_,qaa (nx:=64) (k:=0) (ns:=[]) (ks:=[7,3,1,4]) [(0,0),(1,1)] rfl (by simp) (by kernel_rfl)⟩
     rcases Nat.lt_succ_iff_lt_or_eq.1 hm with h'|rfl
     ·exact hJ m h' hm'
     ·assumption)
   |trace_state
 ·repeat'(first|refine zQ ?_|(refine zI ?_;intro hlt)|(refine zC ?_ ?_<;>first|intro h|simp)|fail)
  all_goals first
   |exact absurd hM (by omega)
   |(refine⟨hL,qaJ hC (qvE hL (by assumption) ha' fun m hm=>hJ m (by omega) hm),qaa (nx:=32) (k:=0) (ns:=[]) (ks:=[3,1]) [(0,0)] rfl (by simp) (by kernel_rfl)⟩)
   |trace_state
theorem qhX(s:Site):qfn s=if qa8 s.bed≠0 then qa8 s.bed else if qaI s.ground≠0 then qaI s.ground else if qdT s.zones≠0 then qdT s.zones else if qdU s.quays≠0 then qdU s.quays else if qb3 s.gauges≠0 then qb3 s.gauges else qen s.ground.soils s.dreds:=rfl
structure Sized(s:Site):Prop where
 lv:s.bed.levels.length<1000000000000
 so:s.ground.soils.length<1000000000000
 bo:s.ground.borings.length<1000000000000
 zo:s.zones.length≤9223372036854775807
 qu:s.quays.length≤9223372036854775807
 ga:s.gauges.length≤9223372036854775807
 ma:∀g∈s.gauges,g.marks.length≤9223372036854775807
 dr:s.dreds.length≤9223372036854775807
 ou:∀d∈s.dreds,d.outs.length≤9223372036854775807
theorem qAO(s:Site)(h:Sized s):Contract Tryz.prog 85 [.ptr (encSite s)] (.ret (.int .i64 (qa8 s.bed))):=by
 have h1:=qCT s.bed h.lv
 refine zT mix Tryz.func85 Tryz.ntmps85 Tryz.results85 rfl rfl rfl ?_;simp only[qac,Nat.reduceAdd]
 repeat'(first|(with_reducible rfl)|refine zQ ?_|refine zF h1 ?_|refine zE ?_|fail)
theorem qAP(s:Site)(h:Sized s):Contract Tryz.prog 87 [.ptr (encSite s)] (.ret (.int .i64 (qaI s.ground))):=by
 have h1:=c22 s.ground h.so h.bo
 refine zT mix Tryz.func87 Tryz.ntmps87 Tryz.results87 rfl rfl rfl ?_;simp only[qac,Nat.reduceAdd]
 repeat'(first|(with_reducible rfl)|refine zQ ?_|refine zF h1 ?_|refine zE ?_|fail)
theorem qAQ(s:Site)(h:Sized s):Contract Tryz.prog 89 [.ptr (encSite s)] (.ret (.int .i64 (qdT s.zones))):=by
 have h1:=qoy s.zones h.zo
 refine zT mix Tryz.func89 Tryz.ntmps89 Tryz.results89 rfl rfl rfl ?_;simp only[qac,Nat.reduceAdd]
 repeat'(first|(with_reducible rfl)|refine zQ ?_|refine zF h1 ?_|refine zE ?_|fail)
theorem qAR(s:Site)(h:Sized s):Contract Tryz.prog 91 [.ptr (encSite s)] (.ret (.int .i64 (qdU s.quays))):=by
 have h1:=qoA s.quays h.qu
 refine zT mix Tryz.func91 Tryz.ntmps91 Tryz.results91 rfl rfl rfl ?_;simp only[qac,Nat.reduceAdd]
 repeat'(first|(with_reducible rfl)|refine zQ ?_|refine zF h1 ?_|refine zE ?_|fail)
theorem qAS(s:Site)(h:Sized s):Contract Tryz.prog 93 [.ptr (encSite s)] (.ret (.int .i64 (qb3 s.gauges))):=by
 have h1:=qhV s.gauges h.ga h.ma
 refine zT mix Tryz.func93 Tryz.ntmps93 Tryz.results93 rfl rfl rfl ?_;simp only[qac,Nat.reduceAdd]
 repeat'(first|(with_reducible rfl)|refine zQ ?_|refine zF h1 ?_|refine zE ?_|fail)
theorem qAT(s:Site)(h:Sized s):Contract Tryz.prog 95 [.ptr (encSite s)] (.ret (.int .i64 (qen s.ground.soils s.dreds))):=by
 have h1:=qkL s h.so h.dr h.ou
 refine zT mix Tryz.func95 Tryz.ntmps95 Tryz.results95 rfl rfl rfl ?_;simp only[qac,Nat.reduceAdd]
 repeat'(first|(with_reducible rfl)|refine zQ ?_|refine zF h1 ?_|refine zE ?_|fail)
theorem qkN(s:Site)(h:Sized s):Contract Tryz.prog 25 [.agg (encSite s)] (.ret (.int .i64 (qfn s))):=by
 have h1:=c28 s.bed h.lv
 have h2:=c23 s.ground h.so h.bo
 have h3:=qoz s.zones h.zo
 have h4:=qoB s.quays h.qu
 have h5:=qm6 s.gauges h.ga h.ma
 have h6:=qkM s h.so h.dr h.ou
 rw[qhX]
 generalize qa8 s.bed=e1 at*
 generalize qaI s.ground=e2 at*
 generalize qdT s.zones=e3 at*
 generalize qdU s.quays=e4 at*
 generalize qb3 s.gauges=e5 at*
 generalize qen s.ground.soils s.dreds=e6 at*
 refine zT mix Tryz.func25 Tryz.ntmps25 Tryz.results25 rfl rfl rfl ?_;simp only[qac,Nat.reduceAdd]
 repeat'(first|refine zQ ?_|refine zF h1 ?_|refine zF h2 ?_|refine zF h3 ?_|refine zF h4 ?_|refine zF h5 ?_|refine zF h6 ?_|(refine zC ?_ ?_<;>first|intro h|simp)|refine zE ?_|fail)
 all_goals first
  |(simp only[*,ne_eq,not_true,not_false_iff,if_true,if_false];done)
  |(simp_all;done)
  |trace_state
theorem qhh(s:Site)(h:Sized s):Contract Tryz.prog 24 [.agg (encSite s)] (.ret (.int .i64 (qfn s))):=by
 have h1:=qAO s h
 have h2:=qAP s h
 have h3:=qAQ s h
 have h4:=qAR s h
 have h5:=qAS s h
 have h6:=qAT s h
 refine zT mix Tryz.func24 Tryz.ntmps24 Tryz.results24 rfl rfl rfl ?_;simp only[qac,Nat.reduceAdd]
 repeat'(first|((with_reducible apply qs7);rfl;rfl;rfl;rfl;rfl;rfl;rfl;rfl)|refine zS ?_|refine zA ?_|fail)
 refine qaf 6 (fun i=>⟨[(16,.int .i64 i),(15,.int .i64 6),(14,.os 1 0 6)],[(1,⟨1,false,[[.clo (.func 85) [] [.op 0 0 0]],[.clo (.func 87) [] [.op 0 0 0]],[.clo (.func 89) [] [.op 0 0 0]],[.clo (.func 91) [] [.op 0 0 0]],[.clo (.func 93) [] [.op 0 0 0]],[.clo (.func 95) [] [.op 0 0 0]]]⟩),(0,⟨12,true,[encSite s]⟩)],64,26⟩)
  (fun i=>(0<i→qa8 s.bed=0)∧(1<i→qaI s.ground=0)∧(2<i→qdT s.zones=0)∧(3<i→qdU s.quays=0)∧(4<i→qb3 s.gauges=0)∧(5<i→qen s.ground.soils s.dreds=0)) (qaa (nx:=64) (k:=0) (ns:=[]) (ks:=[16,15,14]) [(256,1),(0,0)] rfl (by simp) (by kernel_rfl)) (by omega) ?_
 intro i hi hC
 rw[qhX]
 generalize qa8 s.bed=e1 at*
 generalize qaI s.ground=e2 at*
 generalize qdT s.zones=e3 at*
 generalize qdU s.quays=e4 at*
 generalize qb3 s.gauges=e5 at*
 generalize qen s.ground.soils s.dreds=e6 at*
 match i,hi,hC with
 |0,_,hC=>
  repeat'(first|((with_reducible apply qdn);rfl;rfl;(exact h1);rfl)|refine zQ ?_|(refine zC ?_ ?_<;>first|intro h|simp)|refine zE ?_|fail)
  all_goals first
   |(simp[*];done)
   |exact⟨by omega,⟨fun hh=>by first|trivial|rfl|assumption|exact absurd hh (by decide),fun hh=>by first|trivial|rfl|assumption|exact absurd hh (by decide),fun hh=>by first|trivial|rfl|assumption|exact absurd hh (by decide),fun hh=>by first|trivial|rfl|assumption|exact absurd hh (by decide),fun hh=>by first|trivial|rfl|assumption|exact absurd hh (by decide),fun hh=>by first|trivial|rfl|assumption|exact absurd hh (by decide)⟩,qaa (nx:=64) (k:=0) (ns:=[]) (ks:=[16,15,14]) [(1,1),(0,0)] rfl (by simp) (by kernel_rfl)⟩
   |exact qaa (nx:=64) (k:=0) (ns:=[]) (ks:=[16,15,14]) [(1,1),(0,0)] rfl (by simp) (by kernel_rfl)
   |(exfalso;simp at *;done)
   |trace_state
 |1,_,hC=>
  obtain rfl:e1=0:=hC.1 (by omega)
  repeat'(first|((with_reducible apply qdn);rfl;rfl;(exact h2);rfl)|refine zQ ?_|(refine zC ?_ ?_<;>first|intro h|simp)|refine zE ?_|fail)
  all_goals first
   |(simp[*];done)
   |exact⟨by omega,⟨fun hh=>by first|trivial|rfl|assumption|exact absurd hh (by decide),fun hh=>by first|trivial|rfl|assumption|exact absurd hh (by decide),fun hh=>by first|trivial|rfl|assumption|exact absurd hh (by decide),fun hh=>by first|trivial|rfl|assumption|exact absurd hh (by decide),fun hh=>by first|trivial|rfl|assumption|exact absurd hh (by decide),fun hh=>by first|trivial|rfl|assumption|exact absurd hh (by decide)⟩,qaa (nx:=64) (k:=0) (ns:=[]) (ks:=[16,15,14]) [(1,1),(0,0)] rfl (by simp) (by kernel_rfl)⟩
   |exact qaa (nx:=64) (k:=0) (ns:=[]) (ks:=[16,15,14]) [(1,1),(0,0)] rfl (by simp) (by kernel_rfl)
   |(exfalso;simp at *;done)
   |trace_state
 |2,_,hC=>
  obtain rfl:e1=0:=hC.1 (by omega)
  obtain rfl:e2=0:=hC.2.1 (by omega)
  repeat'(first|((with_reducible apply qdn);rfl;rfl;(exact h3);rfl)|refine zQ ?_|(refine zC ?_ ?_<;>first|intro h|simp)|refine zE ?_|fail)
  all_goals first
   |(simp[*];done)
   |exact⟨by omega,⟨fun hh=>by first|trivial|rfl|assumption|exact absurd hh (by decide),fun hh=>by first|trivial|rfl|assumption|exact absurd hh (by decide),fun hh=>by first|trivial|rfl|assumption|exact absurd hh (by decide),fun hh=>by first|trivial|rfl|assumption|exact absurd hh (by decide),fun hh=>by first|trivial|rfl|assumption|exact absurd hh (by decide),fun hh=>by first|trivial|rfl|assumption|exact absurd hh (by decide)⟩,qaa (nx:=64) (k:=0) (ns:=[]) (ks:=[16,15,14]) [(1,1),(0,0)] rfl (by simp) (by kernel_rfl)⟩
   |exact qaa (nx:=64) (k:=0) (ns:=[]) (ks:=[16,15,14]) [(1,1),(0,0)] rfl (by simp) (by kernel_rfl)
   |(exfalso;simp at *;done)
   |trace_state
 |3,_,hC=>
  obtain rfl:e1=0:=hC.1 (by omega)
  obtain rfl:e2=0:=hC.2.1 (by omega)
  obtain rfl:e3=0:=hC.2.2.1 (by omega)
  repeat'(first|((with_reducible apply qdn);rfl;rfl;(exact h4);rfl)|refine zQ ?_|(refine zC ?_ ?_<;>first|intro h|simp)|refine zE ?_|fail)
  all_goals first
   |(simp[*];done)
   |exact⟨by omega,⟨fun hh=>by first|trivial|rfl|assumption|exact absurd hh (by decide),fun hh=>by first|trivial|rfl|assumption|exact absurd hh (by decide),fun hh=>by first|trivial|rfl|assumption|exact absurd hh (by decide),fun hh=>by first|trivial|rfl|assumption|exact absurd hh (by decide),fun hh=>by first|trivial|rfl|assumption|exact absurd hh (by decide),fun hh=>by first|trivial|rfl|assumption|exact absurd hh (by decide)⟩,qaa (nx:=64) (k:=0) (ns:=[]) (ks:=[16,15,14]) [(1,1),(0,0)] rfl (by simp) (by kernel_rfl)⟩
   |exact qaa (nx:=64) (k:=0) (ns:=[]) (ks:=[16,15,14]) [(1,1),(0,0)] rfl (by simp) (by kernel_rfl)
   |(exfalso;simp at *;done)
   |trace_state
 |4,_,hC=>
  obtain rfl:e1=0:=hC.1 (by omega)
  obtain rfl:e2=0:=hC.2.1 (by omega)
  obtain rfl:e3=0:=hC.2.2.1 (by omega)
  obtain rfl:e4=0:=hC.2.2.2.1 (by omega)
  repeat'(first|((with_reducible apply qdn);rfl;rfl;(exact h5);rfl)|refine zQ ?_|(refine zC ?_ ?_<;>first|intro h|simp)|refine zE ?_|fail)
  all_goals first
   |(simp[*];done)
   |exact⟨by omega,⟨fun hh=>by first|trivial|rfl|assumption|exact absurd hh (by decide),fun hh=>by first|trivial|rfl|assumption|exact absurd hh (by decide),fun hh=>by first|trivial|rfl|assumption|exact absurd hh (by decide),fun hh=>by first|trivial|rfl|assumption|exact absurd hh (by decide),fun hh=>by first|trivial|rfl|assumption|exact absurd hh (by decide),fun hh=>by first|trivial|rfl|assumption|exact absurd hh (by decide)⟩,qaa (nx:=64) (k:=0) (ns:=[]) (ks:=[16,15,14]) [(1,1),(0,0)] rfl (by simp) (by kernel_rfl)⟩
   |exact qaa (nx:=64) (k:=0) (ns:=[]) (ks:=[16,15,14]) [(1,1),(0,0)] rfl (by simp) (by kernel_rfl)
   |(exfalso;simp at *;done)
   |trace_state
 |5,_,hC=>
  obtain rfl:e1=0:=hC.1 (by omega)
  obtain rfl:e2=0:=hC.2.1 (by omega)
  obtain rfl:e3=0:=hC.2.2.1 (by omega)
  obtain rfl:e4=0:=hC.2.2.2.1 (by omega)
  obtain rfl:e5=0:=hC.2.2.2.2.1 (by omega)
  repeat'(first|((with_reducible apply qdn);rfl;rfl;(exact h6);rfl)|refine zQ ?_|(refine zC ?_ ?_<;>first|intro h|simp)|refine zE ?_|fail)
  all_goals first
   |(simp[*];done)
   |exact⟨by omega,⟨fun hh=>by first|trivial|rfl|assumption|exact absurd hh (by decide),fun hh=>by first|trivial|rfl|assumption|exact absurd hh (by decide),fun hh=>by first|trivial|rfl|assumption|exact absurd hh (by decide),fun hh=>by first|trivial|rfl|assumption|exact absurd hh (by decide),fun hh=>by first|trivial|rfl|assumption|exact absurd hh (by decide),fun hh=>by first|trivial|rfl|assumption|exact absurd hh (by decide)⟩,qaa (nx:=64) (k:=0) (ns:=[]) (ks:=[16,15,14]) [(1,1),(0,0)] rfl (by simp) (by kernel_rfl)⟩
   |exact qaa (nx:=64) (k:=0) (ns:=[]) (ks:=[16,15,14]) [(1,1),(0,0)] rfl (by simp) (by kernel_rfl)
   |(exfalso;simp at *;done)
   |trace_state
 |6,_,hC=>
  obtain rfl:e1=0:=hC.1 (by omega)
  obtain rfl:e2=0:=hC.2.1 (by omega)
  obtain rfl:e3=0:=hC.2.2.1 (by omega)
  obtain rfl:e4=0:=hC.2.2.2.1 (by omega)
  obtain rfl:e5=0:=hC.2.2.2.2.1 (by omega)
  obtain rfl:e6=0:=hC.2.2.2.2.2 (by omega)
  repeat'(first|refine zQ ?_|refine zE ?_|fail)
  all_goals first
   |(simp[*];done)
   |exact⟨by omega,⟨fun hh=>by first|trivial|rfl|assumption|exact absurd hh (by decide),fun hh=>by first|trivial|rfl|assumption|exact absurd hh (by decide),fun hh=>by first|trivial|rfl|assumption|exact absurd hh (by decide),fun hh=>by first|trivial|rfl|assumption|exact absurd hh (by decide),fun hh=>by first|trivial|rfl|assumption|exact absurd hh (by decide),fun hh=>by first|trivial|rfl|assumption|exact absurd hh (by decide)⟩,qaa (nx:=64) (k:=0) (ns:=[]) (ks:=[16,15,14]) [(1,1),(0,0)] rfl (by simp) (by kernel_rfl)⟩
   |exact qaa (nx:=64) (k:=0) (ns:=[]) (ks:=[16,15,14]) [(1,1),(0,0)] rfl (by simp) (by kernel_rfl)
   |(exfalso;simp at *;done)
   |trace_state
end Go.Pv.Soil

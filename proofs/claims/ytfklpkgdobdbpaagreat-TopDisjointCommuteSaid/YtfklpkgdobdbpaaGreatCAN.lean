import Derived.Test.YtfklpkgdobdbpaaGreatCAM
/- Part of the proofs over YtfklpkgdobdbpaaGreat: N5, N6. -/
set_option linter.unusedVariables false
set_option linter.unusedSimpArgs false
set_option linter.unnecessarySimpa false
open Go Go.Proofs Go.Pv
set_option maxHeartbeats 8000000
set_option maxRecDepth 100000
set_option linter.unusedSimpArgs false
set_option linter.unusedVariables false
namespace Go.Pv.Soil
theorem ql6{α:Type}{nm:α→ByteArray}{er:α→Int}{l:List α}{i:Nat}(hi:i<l.length)(h:qaS (nm l[i])=false):qce nm er l i=4:=by
 simp only[qce,List.getElem?_eq_getElem hi,h];simp
theorem ql7{α:Type}{nm:α→ByteArray}{er:α→Int}{l:List α}{i:Nat}(hi:i<l.length)(h:qaS (nm l[i])=true)(h2:((l.take i).any fun y=>decide (nm y=nm l[i]))=true):qce nm er l i=5:=by
 simp only[qce,List.getElem?_eq_getElem hi,h,h2];simp
theorem ql8{α:Type}{nm:α→ByteArray}{er:α→Int}{l:List α}{i:Nat}(hi:i<l.length)(h:qaS (nm l[i])=true)(h2:((l.take i).any fun y=>decide (nm y=nm l[i]))=false):qce nm er l i=er l[i]:=by
 simp only[qce,List.getElem?_eq_getElem hi,h,h2];simp
theorem qhS{α:Type}{nm:α→ByteArray}{s:ByteArray}{l:List α}(h:(l.any fun y=>decide (nm y=s))=true):qbI .string (.str s) (l.map fun x=>[.str (nm x),.bool true])=some (some (.bool true)):=by
 rw[qop,if_pos]
 obtain⟨x,hx,h2⟩:=List.any_eq_true.1 h
 exact List.any_eq_true.2 ⟨x,hx,by rw[of_decide_eq_true h2,qly];exact decide_eq_true rfl⟩
theorem qkI{α:Type}{nm:α→ByteArray}{s:ByteArray}{l:List α}(h:(l.any fun y=>decide (nm y=s))=false):qbI .string (.str s) (l.map fun x=>[.str (nm x),.bool true])=some none:=by
 refine qs5 fun x hx e=>?_
 have:=List.any_eq_false.1 h x hx
 exact this (decide_eq_true e)
theorem qvt{d:Dred}(h:qaS d.name=false):4=qet d:=by unfold qet;rw[if_pos h]
theorem qvu{d:Dred}(h:qaS d.name=true)(h2:¬qjq d):2=qet d:=by unfold qet;rw[if_neg (by simp[h]),if_pos h2]
theorem qvv{d:Dred}(h:qaS d.name=true)(h2:qjq d)(h3:8<d.outs.length):8=qet d:=by unfold qet;rw[if_neg (by simp[h]),if_neg (not_not_intro h2),if_pos h3]
theorem qvw{d:Dred}(h:qaS d.name=true)(h2:qjq d)(h3:¬8<d.outs.length):qet d=qha (·.soil) qvr d.outs:=by unfold qet;rw[if_neg (by simp[h]),if_neg (not_not_intro h2),if_neg h3]
theorem qgN(d:Dred)(hl:d.outs.length≤9223372036854775807):Contract Tryz.prog 22 [.agg (encDred d)] (.ret (.int .i64 (qet d))):=by
 refine zT mix Tryz.func22 Tryz.ntmps22 Tryz.results22 rfl rfl rfl ?_;simp only[qac,Nat.reduceAdd]
 repeat'(first|((with_reducible (show evG _ _ (.region 7 _ _) _ _));(with_reducible apply qcb))|((with_reducible apply qek);rfl)|(with_reducible apply qgK)|(with_reducible apply qdD)|(with_reducible apply qeH)|((with_reducible (show qan _ (.call _) _ _ _ _));first|((with_reducible apply qad);rfl;(exact qox _);rfl)|((with_reducible apply qad);rfl;(exact qlq _ _ _);rfl)|((with_reducible apply qad);rfl;(exact qFN _ _ _ _);rfl))|refine zS ?_|refine zA ?_|(refine zC ?_ ?_<;>first|intro h|simp)|(refine zG ?_ ?_<;>first|intro h|simp)|refine zE ?_|fail)
 all_goals first
  |exact qvt (by assumption)
  |exact qvu (by assumption) (by unfold qjq;omega)
  |exact qvv (by assumption) (by unfold qjq;omega) (by omega)
  |skip
 rw[qvw (by assumption) (by unfold qjq;omega) (by omega)]
 refine qaf d.outs.length (fun i=>⟨[(3,.om 0),(51,.int .i64 i),(49,.sl (d.outs.map qbN)),(50,.int .i64 d.outs.length)],[(0,⟨0,true,(d.outs.take i).map fun x=>[.str x.soil,.bool true]⟩)],32,82⟩) (fun i=>∀j,j<i→qce (·.soil) qvr d.outs j=0) (qaa (nx:=32) (k:=0) (ns:=[]) (ks:=[3,51,49,50]) [(1376,0)] rfl (by simp) (by kernel_rfl)) (by omega) ?_
 intro i hi hC
 by_cases hlt:i<d.outs.length
 rotate_left
 ·repeat'(first|refine zQ ?_|(refine zI ?_;intro hlt)|(refine zC ?_ ?_<;>first|intro h|simp)|refine zE ?_|fail)
  all_goals first
   |exact absurd hlt (by omega)
   |exact(qaB fun j hj=>hC j (by omega)).symm
   |trace_state
 by_cases hn:qaS d.outs[i].soil=true
 rotate_left
 ·have hn':qaS d.outs[i].soil=false:=by simpa using hn
  have h1:=qox d.outs[i].soil
  rw[hn']at h1
  repeat'(first|refine zQ ?_|refine zF h1 ?_|(refine zI ?_;intro hlt)|(refine zC ?_ ?_<;>first|intro h|simp)|refine zE ?_|fail)
  all_goals first
   |exact absurd hlt (by omega)
   |exact qaP hlt hC (ql6 hlt hn') (by decide)
   |trace_state
 have h1:=qox d.outs[i].soil
 rw[hn]at h1
 by_cases ha:((d.outs.take i).any fun y=>decide (y.soil=d.outs[i].soil))=true
 ·have hf:=qhS (nm:=fun x:Outp=>x.soil) ha
  repeat'(first|((with_reducible apply qcl);rfl;rfl;rfl;rfl;(exact hf);rfl;rfl)|refine zS ?_|refine zA ?_|refine zF h1 ?_|(refine zI ?_;intro hlt)|(refine zC ?_ ?_<;>first|intro h|simp)|refine zE ?_|fail)
  all_goals first
   |exact absurd hlt (by omega)
   |exact qaP hlt hC (ql7 hlt hn ha) (by decide)
   |trace_state
 have ha':((d.outs.take i).any fun y=>decide (y.soil=d.outs[i].soil))=false:=by simpa using ha
 have hf:=qkI (nm:=fun x:Outp=>x.soil) ha'
 have hs:=ql8 (er:=qvr) hlt hn ha'
 repeat'(first|((with_reducible apply qcl);rfl;rfl;rfl;rfl;(exact hf);rfl;rfl)|((with_reducible (show evG _ _ (.region 17 _ _) _ _));(with_reducible apply qcb))|((with_reducible apply qeU);rfl;rfl;rfl;rfl;rfl;rfl;(exact hf);rfl)|(with_reducible apply qgK)|(with_reducible apply qdD)|(with_reducible apply qeH)|((with_reducible apply qad);rfl;(exact qlq _ _ _);rfl)|refine zS ?_|refine zA ?_|refine zF h1 ?_|(refine zI ?_;intro hlt)|(refine zC ?_ ?_<;>first|intro h|simp)|(refine zG ?_ ?_<;>first|intro h|simp)|refine zE ?_|fail)
 all_goals first
  |exact absurd hlt (by omega)
  |exact qaP hlt hC (by rw[hs,qvr,if_neg (by omega)]) (by decide)
  |(refine⟨hlt,qaJ hC (by rw[hs,qvr,if_pos (by omega)]),?_⟩
    show qck _ ⟨[(3,.om 0),(51,.int .i64 (i+1:Nat)),(49,.sl (d.outs.map qbN)),(50,.int .i64 d.outs.length)],[(0,⟨0,true,(d.outs.take (i+1)).map fun x=>[.str x.soil,.bool true]⟩)],32,82⟩
    rw[List.take_succ_eq_append_getElem hlt,List.map_append]
    exact qaa (nx:=32) (k:=0) (ns:=[]) (ks:=[3,51,49,50]) [(0,0)] rfl (by simp) (by kernel_rfl))
  |trace_state
theorem qgO(d:Dred)(hl:d.outs.length≤9223372036854775807):Contract Tryz.prog 23 [.agg (encDred d)] (.ret (.int .i64 (qet d))):=by
 refine zT mix Tryz.func23 Tryz.ntmps23 Tryz.results23 rfl rfl rfl ?_;simp only[qac,Nat.reduceAdd]
 repeat'(first|((with_reducible (show qan _ (.call _) _ _ _ _));first|((with_reducible apply qad);rfl;(exact c83 _);rfl)|((with_reducible apply qad);rfl;(exact c38 _ _ _);rfl))|refine zQ ?_|(refine zC ?_ ?_<;>first|intro h|simp)|(refine zG ?_ ?_<;>first|intro h|simp)|refine zE ?_|fail)
 all_goals first
  |exact qvt (by assumption)
  |exact qvu (by assumption) (by unfold qjq;omega)
  |exact qvv (by assumption) (by unfold qjq;omega) (by omega)
  |skip
 rw[qvw (by assumption) (by unfold qjq;omega) (by omega)]
 refine qaf d.outs.length (fun i=>⟨[(3,.int .i64 i),(1,.op 0 0 0)],[(0,⟨8,true,[encDred d]⟩)],32,98⟩) (fun i=>∀j,j<i→qce (·.soil) qvr d.outs j=0) (qaa (nx:=32) (k:=0) (ns:=[]) (ks:=[3,1]) [(0,0)] rfl (by simp) (by kernel_rfl)) (by omega) ?_
 intro i hi hC
 by_cases hlt:i<d.outs.length
 rotate_left
 ·repeat'(first|refine zQ ?_|(refine zI ?_;intro hlt)|(refine zC ?_ ?_<;>first|intro h|simp)|refine zE ?_|fail)
  all_goals first
   |exact absurd hlt (by omega)
   |exact(qaB fun j hj=>hC j (by omega)).symm
   |trace_state
 by_cases hn:qaS d.outs[i].soil=true
 rotate_left
 ·have hn':qaS d.outs[i].soil=false:=by simpa using hn
  have h1:=c83 d.outs[i].soil
  rw[hn']at h1
  repeat'(first|refine zQ ?_|refine zF h1 ?_|(refine zI ?_;intro hlt)|(refine zC ?_ ?_<;>first|intro h|simp)|refine zE ?_|fail)
  all_goals first
   |exact absurd hlt (by omega)
   |exact qaP hlt hC (ql6 hlt hn') (by decide)
   |trace_state
 have h1:=c83 d.outs[i].soil
 rw[hn]at h1
 repeat'(first|refine zQ ?_|refine zF h1 ?_|(refine zI ?_;intro hlt)|(refine zC ?_ ?_<;>first|intro h|simp)|refine zE ?_|fail)
 all_goals try exact absurd hlt (by omega)
 refine qaf i (fun k=>⟨[(4,.int .i64 k),(3,.int .i64 i),(1,.op 0 0 0)],[(0,⟨8,true,[encDred d]⟩)],32,98⟩) (fun k=>∀j (hj:j<k),¬(d.outs[j]?.map (·.soil)=some d.outs[i].soil)) (qaa (nx:=32) (k:=0) (ns:=[]) (ks:=[4,3,1]) [(0,0)] rfl (by simp) (by kernel_rfl)) (by omega) ?_
 intro k hk hK
 by_cases hlk:k<i
 ·have hkl:k<d.outs.length:=by omega
  repeat'(first|refine zQ ?_|(refine zI ?_;intro hlt)|(refine zC ?_ ?_<;>first|intro h|simp)|((with_reducible apply qaG);rfl;rfl)|refine zE ?_|fail)
  all_goals try simp only[Int.toNat_natCast]at*
  all_goals first
   |exact absurd hlk (by omega)
   |(refine qaP hlt hC (ql7 hlt hn ?_) (by decide)
     refine List.any_eq_true.2 ⟨d.outs[k],?_,decide_eq_true (by assumption)⟩
     exact List.mem_iff_getElem.2 ⟨k,by rw[List.length_take];omega,List.getElem_take⟩)
   |(refine⟨by omega,fun j hj=>?_,qaa (nx:=32) (k:=0) (ns:=[]) (ks:=[4,3,1]) [(0,0)] rfl (by simp) (by kernel_rfl)⟩
     rcases Nat.lt_succ_iff_lt_or_eq.1 hj with h'|rfl
     ·exact hK j h'
     ·rw[List.getElem?_eq_getElem hkl];simpa using ‹¬_=_›)
   |trace_state
 ·have ha':((d.outs.take i).any fun y=>decide (y.soil=d.outs[i].soil))=false:=by
   refine List.any_eq_false.2 fun y hy=>?_
   obtain⟨j,hj,rfl⟩:=List.mem_iff_getElem.1 hy
   rw[List.length_take]at hj
   have:=hK j (by omega)
   rw[List.getElem?_eq_getElem (by omega)]at this
   simpa[List.getElem_take]using this
  have hs:=ql8 (er:=qvr) hlt hn ha'
  repeat'(first|((with_reducible apply qad);rfl;(exact c38 _ _ _);rfl)|refine zQ ?_|(refine zI ?_;intro hlt)|(refine zC ?_ ?_<;>first|intro h|simp)|(refine zG ?_ ?_<;>first|intro h|simp)|((with_reducible apply qaG);rfl;rfl)|refine zE ?_|fail)
  all_goals first
   |exact absurd (show k<i by omega) hlk
   |exact qaP hlt hC (by rw[hs,qvr,if_neg (by omega)]) (by decide)
   |(refine⟨hlt,qaJ hC (by rw[hs,qvr,if_pos (by omega)]),qaa (nx:=32) (k:=0) (ns:=[]) (ks:=[3,1]) [(0,0)] rfl (by simp) (by kernel_rfl)⟩)
   |trace_state
theorem qhT{α:Type}{nm:α→ByteArray}{s:ByteArray}{l:List α}{i k:Nat}(hk:k<i)(hl:k<l.length)(h:nm l[k]=s):((l.take i).any fun y=>decide (nm y=s))=true:=
 List.any_eq_true.2 ⟨l[k],List.mem_iff_getElem.2 ⟨k,by rw[List.length_take];omega,List.getElem_take⟩,decide_eq_true h⟩
theorem qkJ{α:Type}{nm:α→ByteArray}{s:ByteArray}{l:List α}{i:Nat}(h:∀j (_:j<i),¬(l[j]?.map nm=some s)):((l.take i).any fun y=>decide (nm y=s))=false:=by
 refine List.any_eq_false.2 fun y hy=>?_
 obtain⟨j,hj,rfl⟩:=List.mem_iff_getElem.1 hy
 rw[List.length_take]at hj
 have:=h j (by omega)
 rw[List.getElem?_eq_getElem (by omega)]at this
 simpa[List.getElem_take]using this
theorem qf0{α:Type}{nm:α→ByteArray}{s:ByteArray}{l:List α}{k:Nat}(hkl:k<l.length)(hK:∀j (_:j<k),¬(l[j]?.map nm=some s))(h:¬nm l[k]=s):∀j (_:j<k+1),¬(l[j]?.map nm=some s):=fun j hj=>by
 rcases Nat.lt_succ_iff_lt_or_eq.1 hj with h'|rfl
 ·exact hK j h'
 ·rw[List.getElem?_eq_getElem hkl];simpa using h
theorem qrj{l:List qfD}(h:10<l.length):8=qdT l:=by unfold qdT;rw[if_pos h]
theorem qrk{l:List qfD}(h:¬10<l.length):qdT l=qha (·.name) (fun z=>Geo.polyE z.corners) l:=by unfold qdT;rw[if_neg h]
theorem qoy(l:List qfD)(hl:l.length≤9223372036854775807):Contract Tryz.prog 90 [.sl (l.map qbv)] (.ret (.int .i64 (qdT l))):=by
 refine zT mix Tryz.func90 Tryz.ntmps90 Tryz.results90 rfl rfl rfl ?_;simp only[qac,Nat.reduceAdd]
 repeat'(first|((with_reducible (show evG _ _ (.region 3 _ _) _ _));(with_reducible apply qcb))|((with_reducible apply qek);rfl)|(with_reducible apply qgK)|(with_reducible apply qdD)|(with_reducible apply qeH)|refine zS ?_|refine zA ?_|(refine zC ?_ ?_<;>first|intro h|simp)|refine zE ?_|fail)
 ·exact qrj (by omega)
 rw[qrk (by omega)]
 refine qaf l.length (fun i=>⟨[(3,.om 0),(13,.int .i64 i),(11,.sl (l.map qbv)),(12,.int .i64 l.length)],[(0,⟨0,true,(l.take i).map fun x=>[.str x.name,.bool true]⟩)],32,37⟩) (fun i=>∀j,j<i→qce (·.name) (fun z=>Geo.polyE z.corners) l j=0) (qaa (nx:=32) (k:=0) (ns:=[]) (ks:=[3,13,11,12]) [(128,0)] rfl (by simp) (by kernel_rfl)) (by omega) ?_
 intro i hi hC
 by_cases hlt:i<l.length
 rotate_left
 ·repeat'(first|refine zQ ?_|(refine zI ?_;intro hlt)|(refine zC ?_ ?_<;>first|intro h|simp)|refine zE ?_|fail)
  all_goals first
   |exact absurd hlt (by omega)
   |exact(qaB fun j hj=>hC j (by omega)).symm
   |trace_state
 have h1:=qox l[i].name
 by_cases hn:qaS l[i].name=true
 rotate_left
 ·have hn':qaS l[i].name=false:=by simpa using hn
  rw[hn']at h1
  repeat'(first|refine zQ ?_|refine zF h1 ?_|(refine zI ?_;intro hlt)|(refine zC ?_ ?_<;>first|intro h|simp)|refine zE ?_|fail)
  all_goals first
   |exact absurd hlt (by omega)
   |exact qaP hlt hC (ql6 hlt hn') (by decide)
   |trace_state
 rw[hn]at h1
 by_cases ha:((l.take i).any fun y=>decide (y.name=l[i].name))=true
 ·have hf:=qhS (nm:=fun x:qfD=>x.name) ha
  repeat'(first|((with_reducible apply qcl);rfl;rfl;rfl;rfl;(exact hf);rfl;rfl)|refine zS ?_|refine zA ?_|refine zF h1 ?_|(refine zI ?_;intro hlt)|(refine zC ?_ ?_<;>first|intro h|simp)|refine zE ?_|fail)
  all_goals first
   |exact absurd hlt (by omega)
   |exact qaP hlt hC (ql7 hlt hn ha) (by decide)
   |trace_state
 have ha':((l.take i).any fun y=>decide (y.name=l[i].name))=false:=by simpa using ha
 have hf:=qkI (nm:=fun x:qfD=>x.name) ha'
 have hs:=ql8 (er:=fun z:qfD=>Geo.polyE z.corners) hlt hn ha'
 have h3:=Geo.c_CheckPolygon l[i].corners
 repeat'(first|((with_reducible apply qcl);rfl;rfl;rfl;rfl;(exact hf);rfl;rfl)|((with_reducible (show evG _ _ (.region 11 _ _) _ _));(with_reducible apply qcb))|((with_reducible apply qeU);rfl;rfl;rfl;rfl;rfl;rfl;(exact hf);rfl)|(with_reducible apply qgK)|(with_reducible apply qdD)|(with_reducible apply qeH)|refine zS ?_|refine zA ?_|refine zF h1 ?_|refine zF h3 ?_|(refine zI ?_;intro hlt)|(refine zC ?_ ?_<;>first|intro h|simp)|refine zE ?_|fail)
 all_goals first
  |exact absurd hlt (by omega)
  |exact qaP hlt hC hs (by assumption)
  |(refine⟨hlt,qaJ hC (hs.trans (by assumption)),?_⟩
    show qck _ ⟨[(3,.om 0),(13,.int .i64 (i+1:Nat)),(11,.sl (l.map qbv)),(12,.int .i64 l.length)],[(0,⟨0,true,(l.take (i+1)).map fun x=>[.str x.name,.bool true]⟩)],32,37⟩
    rw[List.take_succ_eq_append_getElem hlt,List.map_append]
    exact qaa (nx:=32) (k:=0) (ns:=[]) (ks:=[3,13,11,12]) [(0,0)] rfl (by simp) (by kernel_rfl))
  |trace_state
theorem qoz(l:List qfD)(hl:l.length≤9223372036854775807):Contract Tryz.prog 99 [.sl (l.map qbv)] (.ret (.int .i64 (qdT l))):=by
 refine zT mix Tryz.func99 Tryz.ntmps99 Tryz.results99 rfl rfl rfl ?_;simp only[qac,Nat.reduceAdd]
 repeat'(first|refine zQ ?_|(refine zC ?_ ?_<;>first|intro h|simp)|refine zE ?_|fail)
 ·exact qrj (by omega)
 rw[qrk (by omega)]
 refine qaf l.length (fun i=>⟨[(3,.int .i64 i),(0,.sl (l.map qbv))],[],32,47⟩) (fun i=>∀j,j<i→qce (·.name) (fun z=>Geo.polyE z.corners) l j=0) (qaa (nx:=32) (k:=0) (ns:=[]) (ks:=[3,0]) [] rfl (by simp) (by kernel_rfl)) (by omega) ?_
 intro i hi hC
 by_cases hlt:i<l.length
 rotate_left
 ·repeat'(first|refine zQ ?_|(refine zI ?_;intro hlt)|(refine zC ?_ ?_<;>first|intro h|simp)|refine zE ?_|fail)
  all_goals first
   |exact absurd hlt (by omega)
   |exact(qaB fun j hj=>hC j (by omega)).symm
   |trace_state
 have h1:=c83 l[i].name
 by_cases hn:qaS l[i].name=true
 rotate_left
 ·have hn':qaS l[i].name=false:=by simpa using hn
  rw[hn']at h1
  repeat'(first|refine zQ ?_|refine zF h1 ?_|(refine zI ?_;intro hlt)|(refine zC ?_ ?_<;>first|intro h|simp)|refine zE ?_|fail)
  all_goals first
   |exact absurd hlt (by omega)
   |exact qaP hlt hC (ql6 hlt hn') (by decide)
   |trace_state
 rw[hn]at h1
 repeat'(first|refine zQ ?_|refine zF h1 ?_|(refine zI ?_;intro hlt)|(refine zC ?_ ?_<;>first|intro h|simp)|refine zE ?_|fail)
 all_goals try exact absurd hlt (by omega)
 refine qaf i (fun k=>⟨[(4,.int .i64 k),(3,.int .i64 i),(0,.sl (l.map qbv))],[],32,47⟩) (fun k=>∀j (hj:j<k),¬(l[j]?.map (·.name)=some l[i].name)) (qaa (nx:=32) (k:=0) (ns:=[]) (ks:=[4,3,0]) [] rfl (by simp) (by kernel_rfl)) (by omega) ?_
 intro k hk hK
 by_cases hlk:k<i
 ·have hkl:k<l.length:=by omega
  repeat'(first|refine zQ ?_|(refine zI ?_;intro hlt)|(refine zC ?_ ?_<;>first|intro h|simp)|((with_reducible apply qaG);rfl;rfl)|refine zE ?_|fail)
  all_goals try simp only[Int.toNat_natCast]at*
  all_goals first
   |exact absurd hlk (by omega)
   |exact qaP hlt hC (ql7 hlt hn (qhT hlk hkl (by assumption))) (by decide)
   |(refine⟨by omega,qf0 hkl hK (by assumption),qaa (nx:=32) (k:=0) (ns:=[]) (ks:=[4,3,0]) [] rfl (by simp) (by kernel_rfl)⟩)
   |trace_state
 ·obtain rfl:k=i:=by omega
  have hs:=ql8 (er:=fun z:qfD=>Geo.polyE z.corners) hlt hn (qkJ hK)
  have h3:=Geo.c_rCheckPolygon l[k].corners
  repeat'(first|refine zQ ?_|refine zF h3 ?_|(refine zI ?_;intro hlt)|(refine zC ?_ ?_<;>first|intro h|simp)|((with_reducible apply qaG);rfl;rfl)|refine zE ?_|fail)
  all_goals first
   |exact absurd (show k<k by omega) hlk
   |exact qaP hlt hC hs (by assumption)
   |(refine⟨hlt,qaJ hC (hs.trans (by assumption)),qaa (nx:=32) (k:=0) (ns:=[]) (ks:=[3,0]) [] rfl (by simp) (by kernel_rfl)⟩)
   |trace_state
theorem qrl{l:List Quay}(h:5<l.length):8=qdU l:=by unfold qdU;rw[if_pos h]
theorem qrm{l:List Quay}(h:¬5<l.length):qdU l=qct l.length (qkH l):=by unfold qdU;rw[if_neg h]
theorem qpY{l:List Quay}{i:Nat}(hi:i<l.length)(h:qeI l[i]≠0):qkH l i=qeI l[i]:=by simp only[qkH,List.getElem?_eq_getElem hi];rw[if_pos h]
theorem qvx{l:List Quay}{i:Nat}(hi:i<l.length)(h:qeI l[i]=0)(h2:((l.take i).any fun y=>decide (y.name=l[i].name))=true):qkH l i=5:=by simp only[qkH,List.getElem?_eq_getElem hi];rw[if_neg (not_not_intro h),if_pos h2]
theorem qvy{l:List Quay}{i:Nat}(hi:i<l.length)(h:qeI l[i]=0)(h2:((l.take i).any fun y=>decide (y.name=l[i].name))=false):qkH l i=0:=by simp only[qkH,List.getElem?_eq_getElem hi];rw[if_neg (not_not_intro h),if_neg (by simp[h2])]
theorem qoA(l:List Quay)(hl:l.length≤9223372036854775807):Contract Tryz.prog 92 [.sl (l.map qcf)] (.ret (.int .i64 (qdU l))):=by
 refine zT mix Tryz.func92 Tryz.ntmps92 Tryz.results92 rfl rfl rfl ?_;simp only[qac,Nat.reduceAdd]
 repeat'(first|((with_reducible (show evG _ _ (.region 3 _ _) _ _));(with_reducible apply qcb))|((with_reducible apply qek);rfl)|(with_reducible apply qgK)|(with_reducible apply qdD)|(with_reducible apply qeH)|refine zS ?_|refine zA ?_|(refine zC ?_ ?_<;>first|intro h|simp)|refine zE ?_|fail)
 ·exact qrl (by omega)
 rw[qrm (by omega)]
 refine qaf l.length (fun i=>⟨[(3,.om 0),(13,.int .i64 i),(11,.sl (l.map qcf)),(12,.int .i64 l.length)],[(0,⟨0,true,(l.take i).map fun x=>[.str x.name,.bool true]⟩)],32,30⟩) (fun i=>∀j,j<i→qkH l j=0) (qaa (nx:=32) (k:=0) (ns:=[]) (ks:=[3,13,11,12]) [(128,0)] rfl (by simp) (by kernel_rfl)) (by omega) ?_
 intro i hi hC
 by_cases hlt:i<l.length
 rotate_left
 ·repeat'(first|refine zQ ?_|(refine zI ?_;intro hlt)|(refine zC ?_ ?_<;>first|intro h|simp)|refine zE ?_|fail)
  all_goals first
   |exact absurd hlt (by omega)
   |exact(qaB fun j hj=>hC j (by omega)).symm
   |trace_state
 have h1:=qH6 l[i]
 by_cases ha:((l.take i).any fun y=>decide (y.name=l[i].name))=true
 ·have hf:=qhS (nm:=fun x:Quay=>x.name) ha
  repeat'(first|((with_reducible apply qcl);rfl;rfl;rfl;rfl;(exact hf);rfl;rfl)|refine zS ?_|refine zA ?_|refine zF h1 ?_|(refine zI ?_;intro hlt)|(refine zC ?_ ?_<;>first|intro h|simp)|refine zE ?_|fail)
  all_goals first
   |exact absurd hlt (by omega)
   |exact qaq hlt hC (qpY hlt (by assumption)) (by assumption)
   |exact qaq hlt hC (qvx hlt (by assumption) ha) (by decide)
   |trace_state
 have ha':((l.take i).any fun y=>decide (y.name=l[i].name))=false:=by simpa using ha
 have hf:=qkI (nm:=fun x:Quay=>x.name) ha'
 repeat'(first|((with_reducible apply qcl);rfl;rfl;rfl;rfl;(exact hf);rfl;rfl)|((with_reducible (show evG _ _ (.region 12 _ _) _ _));(with_reducible apply qcb))|((with_reducible apply qeU);rfl;rfl;rfl;rfl;rfl;rfl;(exact hf);rfl)|(with_reducible apply qgK)|(with_reducible apply qdD)|(with_reducible apply qeH)|refine zS ?_|refine zA ?_|refine zF h1 ?_|(refine zI ?_;intro hlt)|(refine zC ?_ ?_<;>first|intro h|simp)|refine zE ?_|fail)
 all_goals first
  |exact absurd hlt (by omega)
  |exact qaq hlt hC (qpY hlt (by assumption)) (by assumption)
  |(refine⟨hlt,qaJ hC (qvy hlt (by assumption) ha'),?_⟩
    show qck _ ⟨[(3,.om 0),(13,.int .i64 (i+1:Nat)),(11,.sl (l.map qcf)),(12,.int .i64 l.length)],[(0,⟨0,true,(l.take (i+1)).map fun x=>[.str x.name,.bool true]⟩)],32,30⟩
    rw[List.take_succ_eq_append_getElem hlt,List.map_append]
    exact qaa (nx:=32) (k:=0) (ns:=[]) (ks:=[3,13,11,12]) [(0,0)] rfl (by simp) (by kernel_rfl))
  |trace_state
theorem qoB(l:List Quay)(hl:l.length≤9223372036854775807):Contract Tryz.prog 100 [.sl (l.map qcf)] (.ret (.int .i64 (qdU l))):=by
 refine zT mix Tryz.func100 Tryz.ntmps100 Tryz.results100 rfl rfl rfl ?_;simp only[qac,Nat.reduceAdd]
 repeat'(first|refine zQ ?_|(refine zC ?_ ?_<;>first|intro h|simp)|refine zE ?_|fail)
 ·exact qrl (by omega)
 rw[qrm (by omega)]
 refine qaf l.length (fun i=>⟨[(3,.int .i64 i),(0,.sl (l.map qcf))],[],32,39⟩) (fun i=>∀j,j<i→qkH l j=0) (qaa (nx:=32) (k:=0) (ns:=[]) (ks:=[3,0]) [] rfl (by simp) (by kernel_rfl)) (by omega) ?_
 intro i hi hC
 by_cases hlt:i<l.length
 rotate_left
 ·repeat'(first|refine zQ ?_|(refine zI ?_;intro hlt)|(refine zC ?_ ?_<;>first|intro h|simp)|refine zE ?_|fail)
  all_goals first
   |exact absurd hlt (by omega)
   |exact(qaB fun j hj=>hC j (by omega)).symm
   |trace_state
 have h1:=c71 l[i]
 repeat'(first|refine zQ ?_|refine zF h1 ?_|(refine zI ?_;intro hlt)|(refine zC ?_ ?_<;>first|intro h|simp)|refine zE ?_|fail)
 all_goals try exact absurd hlt (by omega)
 all_goals try exact qaq hlt hC (qpY hlt (by assumption)) (by assumption)
 refine qaf i (fun k=>⟨[(5,.int .i64 k),(3,.int .i64 i),(0,.sl (l.map qcf))],[],32,39⟩) (fun k=>∀j (hj:j<k),¬(l[j]?.map (·.name)=some l[i].name)) (qaa (nx:=32) (k:=0) (ns:=[]) (ks:=[5,3,0]) [] rfl (by simp) (by kernel_rfl)) (by omega) ?_
 intro k hk hK
 by_cases hlk:k<i
 ·have hkl:k<l.length:=by omega
  repeat'(first|refine zQ ?_|(refine zI ?_;intro hlt)|(refine zC ?_ ?_<;>first|intro h|simp)|((with_reducible apply qaG);rfl;rfl)|refine zE ?_|fail)
  all_goals try simp only[Int.toNat_natCast]at*
  all_goals first
   |exact absurd hlk (by omega)
   |exact qaq hlt hC (qvx hlt (by assumption) (qhT hlk hkl (by assumption))) (by decide)
   |(refine⟨by omega,qf0 hkl hK (by assumption),qaa (nx:=32) (k:=0) (ns:=[]) (ks:=[5,3,0]) [] rfl (by simp) (by kernel_rfl)⟩)
   |trace_state
 ·obtain rfl:k=i:=by omega
  repeat'(first|refine zQ ?_|(refine zI ?_;intro hlt)|(refine zC ?_ ?_<;>first|intro h|simp)|((with_reducible apply qaG);rfl;rfl)|refine zE ?_|fail)
  all_goals first
   |exact absurd (show k<k by omega) hlk
   |(refine⟨hlt,qaJ hC (qvy hlt (by assumption) (qkJ hK)),qaa (nx:=32) (k:=0) (ns:=[]) (ks:=[3,0]) [] rfl (by simp) (by kernel_rfl)⟩)
   |trace_state
end Go.Pv.Soil

import Derived.Test.YtfklpkgdobdbpaaGreatCAQ
/- Part of the proofs over YtfklpkgdobdbpaaGreat: N5. -/
set_option linter.unusedVariables false
set_option linter.unusedSimpArgs false
set_option linter.unnecessarySimpa false
open Go Go.Proofs Go.Pv
set_option maxHeartbeats 8000000
set_option maxRecDepth 100000
set_option linter.unusedSimpArgs false
set_option linter.unusedVariables false
namespace Go.Pv.Soil
theorem qna{α:Type}{nm:α→ByteArray}{er:α→Int}{l:List α}{i:Nat}(hi:i<l.length)(h:qaZ (nm l[i])=false):qcf nm er l i=4:=by
 simp only[qcf,List.getElem?_eq_getElem hi,h];simp
theorem qnb{α:Type}{nm:α→ByteArray}{er:α→Int}{l:List α}{i:Nat}(hi:i<l.length)(h:qaZ (nm l[i])=true)(h2:((l.take i).any fun y=>decide (nm y=nm l[i]))=true):qcf nm er l i=5:=by
 simp only[qcf,List.getElem?_eq_getElem hi,h,h2];simp
theorem qnc{α:Type}{nm:α→ByteArray}{er:α→Int}{l:List α}{i:Nat}(hi:i<l.length)(h:qaZ (nm l[i])=true)(h2:((l.take i).any fun y=>decide (nm y=nm l[i]))=false):qcf nm er l i=er l[i]:=by
 simp only[qcf,List.getElem?_eq_getElem hi,h,h2];simp
theorem qim{α:Type}{nm:α→ByteArray}{s:ByteArray}{l:List α}(h:(l.any fun y=>decide (nm y=s))=true):findR .string (.str s) (l.map fun x=>[.str (nm x),.bool true])=some (some (.bool true)):=by
 rw[qpt,if_pos]
 obtain⟨x,hx,h2⟩:=List.any_eq_true.1 h
 exact List.any_eq_true.2 ⟨x,hx,by rw[of_decide_eq_true h2,qmz];exact decide_eq_true rfl⟩
theorem qlt{α:Type}{nm:α→ByteArray}{s:ByteArray}{l:List α}(h:(l.any fun y=>decide (nm y=s))=false):findR .string (.str s) (l.map fun x=>[.str (nm x),.bool true])=some none:=by
 refine quS fun x hx e=>?_
 have:=List.any_eq_false.1 h x hx
 exact this (decide_eq_true e)
theorem qxn{d:Dred}(h:qaZ d.name=false):4=qfb d:=by unfold qfb;rw[if_pos h]
theorem qxo{d:Dred}(h:qaZ d.name=true)(h2:¬qj5 d):2=qfb d:=by unfold qfb;rw[if_neg (by simp[h]),if_pos h2]
theorem qxp{d:Dred}(h:qaZ d.name=true)(h2:qj5 d)(h3:8<d.outs.length):8=qfb d:=by unfold qfb;rw[if_neg (by simp[h]),if_neg (not_not_intro h2),if_pos h3]
theorem qxq{d:Dred}(h:qaZ d.name=true)(h2:qj5 d)(h3:¬8<d.outs.length):qfb d=qg4 (·.soil) qxl d.outs:=by unfold qfb;rw[if_neg (by simp[h]),if_neg (not_not_intro h2),if_neg h3]
theorem qmm(d:Dred)(hl:d.outs.length≤9223372036854775807):Contract Tryz.prog 22 [.agg (qa4 d)] (.ret (.int .i64 (qfb d))):=by
 refine zT mix Tryz.func22 Tryz.ntmps22 Tryz.results22 rfl rfl rfl ?_;simp only[qab,Nat.reduceAdd]
 repeat'(first|((with_reducible (show evG _ _ (.region 7 _ _) _ _));(with_reducible apply qbM))|((with_reducible apply qdD);rfl)|(with_reducible apply qf2)|(with_reducible apply qcY)|(with_reducible apply qd6)|((with_reducible (show qap _ (.call _) _ _ _ _));first|((with_reducible apply qae);rfl;(exact qpC _);rfl)|((with_reducible apply qae);rfl;(exact qml _ _ _);rfl)|((with_reducible apply qae);rfl;(exact qHZ _ _ _ _);rfl))|refine zS ?_|refine zA ?_|(refine zC ?_ ?_<;>first|intro h|simp)|(refine zG ?_ ?_<;>first|intro h|simp)|refine zE ?_|fail)
 all_goals first
  |exact qxn (by assumption)
  |exact qxo (by assumption) (by unfold qj5;omega)
  |exact qxp (by assumption) (by unfold qj5;omega) (by omega)
  |skip
 rw[qxq (by assumption) (by unfold qj5;omega) (by omega)]
 refine qad d.outs.length (fun i=>⟨[(3,.om 0),(51,.int .i64 i),(49,.sl (d.outs.map qb3)),(50,.int .i64 d.outs.length)],[(0,⟨0,true,(d.outs.take i).map fun x=>[.str x.soil,.bool true]⟩)],32,82⟩) (fun i=>∀j,j<i→qcf (·.soil) qxl d.outs j=0) (qaa (nx:=32) (k:=0) (ns:=[]) (ks:=[3,51,49,50]) [(1376,0)] rfl (by simp) (by kernel_rfl)) (by omega) ?_
 intro i hi hC
 by_cases hlt:i<d.outs.length
 rotate_left
 ·repeat'(first|refine zQ ?_|(refine zI ?_;intro hlt)|(refine zC ?_ ?_<;>first|intro h|simp)|refine zE ?_|fail)
  all_goals first
   |exact absurd hlt (by omega)
   |exact(qaC fun j hj=>hC j (by omega)).symm
   |trace_state
 by_cases hn:qaZ d.outs[i].soil=true
 rotate_left
 ·have hn':qaZ d.outs[i].soil=false:=by simpa using hn
  have h1:=qpC d.outs[i].soil
  rw[hn']at h1
  repeat'(first|refine zQ ?_|refine zF h1 ?_|(refine zI ?_;intro hlt)|(refine zC ?_ ?_<;>first|intro h|simp)|refine zE ?_|fail)
  all_goals first
   |exact absurd hlt (by omega)
   |exact qaV hlt hC (qna hlt hn') (by decide)
   |trace_state
 have h1:=qpC d.outs[i].soil
 rw[hn]at h1
 by_cases ha:((d.outs.take i).any fun y=>decide (y.soil=d.outs[i].soil))=true
 ·have hf:=qim (nm:=fun x:Outp=>x.soil) ha
  repeat'(first|((with_reducible apply qb1);rfl;rfl;rfl;rfl;(exact hf);rfl;rfl)|refine zS ?_|refine zA ?_|refine zF h1 ?_|(refine zI ?_;intro hlt)|(refine zC ?_ ?_<;>first|intro h|simp)|refine zE ?_|fail)
  all_goals first
   |exact absurd hlt (by omega)
   |exact qaV hlt hC (qnb hlt hn ha) (by decide)
   |trace_state
 have ha':((d.outs.take i).any fun y=>decide (y.soil=d.outs[i].soil))=false:=by simpa using ha
 have hf:=qlt (nm:=fun x:Outp=>x.soil) ha'
 have hs:=qnc (er:=qxl) hlt hn ha'
 repeat'(first|((with_reducible apply qb1);rfl;rfl;rfl;rfl;(exact hf);rfl;rfl)|((with_reducible (show evG _ _ (.region 17 _ _) _ _));(with_reducible apply qbM))|((with_reducible apply qeq);rfl;rfl;rfl;rfl;rfl;rfl;(exact hf);rfl)|(with_reducible apply qf2)|(with_reducible apply qcY)|(with_reducible apply qd6)|((with_reducible apply qae);rfl;(exact qml _ _ _);rfl)|refine zS ?_|refine zA ?_|refine zF h1 ?_|(refine zI ?_;intro hlt)|(refine zC ?_ ?_<;>first|intro h|simp)|(refine zG ?_ ?_<;>first|intro h|simp)|refine zE ?_|fail)
 all_goals first
  |exact absurd hlt (by omega)
  |exact qaV hlt hC (by rw[hs,qxl,if_neg (by omega)]) (by decide)
  |(refine⟨hlt,qaQ hC (by rw[hs,qxl,if_pos (by omega)]),?_⟩
    show qcr _ ⟨[(3,.om 0),(51,.int .i64 (i+1:Nat)),(49,.sl (d.outs.map qb3)),(50,.int .i64 d.outs.length)],[(0,⟨0,true,(d.outs.take (i+1)).map fun x=>[.str x.soil,.bool true]⟩)],32,82⟩
    rw[List.take_succ_eq_append_getElem hlt,List.map_append]
    exact qaa (nx:=32) (k:=0) (ns:=[]) (ks:=[3,51,49,50]) [(0,0)] rfl (by simp) (by kernel_rfl))
  |trace_state
theorem qmn(d:Dred)(hl:d.outs.length≤9223372036854775807):Contract Tryz.prog 23 [.agg (qa4 d)] (.ret (.int .i64 (qfb d))):=by
 refine zT mix Tryz.func23 Tryz.ntmps23 Tryz.results23 rfl rfl rfl ?_;simp only[qab,Nat.reduceAdd]
 repeat'(first|((with_reducible (show qap _ (.call _) _ _ _ _));first|((with_reducible apply qae);rfl;(exact c83 _);rfl)|((with_reducible apply qae);rfl;(exact c38 _ _ _);rfl))|refine zQ ?_|(refine zC ?_ ?_<;>first|intro h|simp)|(refine zG ?_ ?_<;>first|intro h|simp)|refine zE ?_|fail)
 all_goals first
  |exact qxn (by assumption)
  |exact qxo (by assumption) (by unfold qj5;omega)
  |exact qxp (by assumption) (by unfold qj5;omega) (by omega)
  |skip
 rw[qxq (by assumption) (by unfold qj5;omega) (by omega)]
 refine qad d.outs.length (fun i=>⟨[(3,.int .i64 i),(1,.op 0 0 0)],[(0,⟨8,true,[qa4 d]⟩)],32,98⟩) (fun i=>∀j,j<i→qcf (·.soil) qxl d.outs j=0) (qaa (nx:=32) (k:=0) (ns:=[]) (ks:=[3,1]) [(0,0)] rfl (by simp) (by kernel_rfl)) (by omega) ?_
 intro i hi hC
 by_cases hlt:i<d.outs.length
 rotate_left
 ·repeat'(first|refine zQ ?_|(refine zI ?_;intro hlt)|(refine zC ?_ ?_<;>first|intro h|simp)|refine zE ?_|fail)
  all_goals first
   |exact absurd hlt (by omega)
   |exact(qaC fun j hj=>hC j (by omega)).symm
   |trace_state
 by_cases hn:qaZ d.outs[i].soil=true
 rotate_left
 ·have hn':qaZ d.outs[i].soil=false:=by simpa using hn
  have h1:=c83 d.outs[i].soil
  rw[hn']at h1
  repeat'(first|refine zQ ?_|refine zF h1 ?_|(refine zI ?_;intro hlt)|(refine zC ?_ ?_<;>first|intro h|simp)|refine zE ?_|fail)
  all_goals first
   |exact absurd hlt (by omega)
   |exact qaV hlt hC (qna hlt hn') (by decide)
   |trace_state
 have h1:=c83 d.outs[i].soil
 rw[hn]at h1
 repeat'(first|refine zQ ?_|refine zF h1 ?_|(refine zI ?_;intro hlt)|(refine zC ?_ ?_<;>first|intro h|simp)|refine zE ?_|fail)
 all_goals try exact absurd hlt (by omega)
 refine qad i (fun k=>⟨[(4,.int .i64 k),(3,.int .i64 i),(1,.op 0 0 0)],[(0,⟨8,true,[qa4 d]⟩)],32,98⟩) (fun k=>∀j (hj:j<k),¬(d.outs[j]?.map (·.soil)=some d.outs[i].soil)) (qaa (nx:=32) (k:=0) (ns:=[]) (ks:=[4,3,1]) [(0,0)] rfl (by simp) (by kernel_rfl)) (by omega) ?_
 intro k hk hK
 by_cases hlk:k<i
 ·have hkl:k<d.outs.length:=by omega
  repeat'(first|refine zQ ?_|(refine zI ?_;intro hlt)|(refine zC ?_ ?_<;>first|intro h|simp)|((with_reducible apply qaz);rfl;rfl)|refine zE ?_|fail)
  all_goals try simp only[Int.toNat_natCast]at*
  all_goals first
   |exact absurd hlk (by omega)
   |(refine qaV hlt hC (qnb hlt hn ?_) (by decide)
     refine List.any_eq_true.2 ⟨d.outs[k],?_,decide_eq_true (by assumption)⟩
     exact List.mem_iff_getElem.2 ⟨k,by rw[List.length_take];omega,List.getElem_take⟩)
   |(refine⟨by omega,fun j hj=>?_,qaa (nx:=32) (k:=0) (ns:=[]) (ks:=[4,3,1]) [(0,0)] rfl (by simp) (by kernel_rfl)⟩
     rcases Nat.lt_succ_iff_lt_or_eq.1 hj with h'|rfl
     ·exact hK j h'
     ·rw[List.getElem?_eq_getElem hkl];simpa using ‹¬_=_›)
   |trace_state
 ·have ha':((d.outs.take i).any fun y=>decide (y.soil=d.outs[i].soil))=false:=by
   refine List.any_eq_false.2 fun y hy=>?_
   obtain⟨j,hj,rfl⟩:=List.mem_iff_getElem.1 hy
   rw[List.length_take]at hj
   have:=hK j (by omega)
   rw[List.getElem?_eq_getElem (by omega)]at this
   simpa[List.getElem_take]using this
  have hs:=qnc (er:=qxl) hlt hn ha'
  repeat'(first|((with_reducible apply qae);rfl;(exact c38 _ _ _);rfl)|refine zQ ?_|(refine zI ?_;intro hlt)|(refine zC ?_ ?_<;>first|intro h|simp)|(refine zG ?_ ?_<;>first|intro h|simp)|((with_reducible apply qaz);rfl;rfl)|refine zE ?_|fail)
  all_goals first
   |exact absurd (show k<i by omega) hlk
   |exact qaV hlt hC (by rw[hs,qxl,if_neg (by omega)]) (by decide)
   |(refine⟨hlt,qaQ hC (by rw[hs,qxl,if_pos (by omega)]),qaa (nx:=32) (k:=0) (ns:=[]) (ks:=[3,1]) [(0,0)] rfl (by simp) (by kernel_rfl)⟩)
   |trace_state
end Go.Pv.Soil

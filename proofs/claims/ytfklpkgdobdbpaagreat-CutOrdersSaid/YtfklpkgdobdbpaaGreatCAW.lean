import Derived.Test.YtfklpkgdobdbpaaGreatCAS
import Derived.Test.YtfklpkgdobdbpaaGreatCAT
import Derived.Test.YtfklpkgdobdbpaaGreatCAU
import Derived.Test.YtfklpkgdobdbpaaGreatCAV
/- Part of the proofs over YtfklpkgdobdbpaaGreat: N6, N8. -/
set_option linter.unusedVariables false
set_option linter.unusedSimpArgs false
set_option linter.unnecessarySimpa false
open Go Go.Proofs Go.Pv
set_option maxHeartbeats 8000000
set_option maxRecDepth 100000
set_option linter.unusedSimpArgs false
set_option linter.unusedVariables false
namespace Go.Pv.Soil
theorem qin{α:Type}{nm:α→ByteArray}{s:ByteArray}{l:List α}{i k:Nat}(hk:k<i)(hl:k<l.length)(h:nm l[k]=s):((l.take i).any fun y=>decide (nm y=s))=true:=
 List.any_eq_true.2 ⟨l[k],List.mem_iff_getElem.2 ⟨k,by rw[List.length_take];omega,List.getElem_take⟩,decide_eq_true h⟩
theorem qlu{α:Type}{nm:α→ByteArray}{s:ByteArray}{l:List α}{i:Nat}(h:∀j (_:j<i),¬(l[j]?.map nm=some s)):((l.take i).any fun y=>decide (nm y=s))=false:=by
 refine List.any_eq_false.2 fun y hy=>?_
 obtain⟨j,hj,rfl⟩:=List.mem_iff_getElem.1 hy
 rw[List.length_take]at hj
 have:=h j (by omega)
 rw[List.getElem?_eq_getElem (by omega)]at this
 simpa[List.getElem_take]using this
theorem qgu{α:Type}{nm:α→ByteArray}{s:ByteArray}{l:List α}{k:Nat}(hkl:k<l.length)(hK:∀j (_:j<k),¬(l[j]?.map nm=some s))(h:¬nm l[k]=s):∀j (_:j<k+1),¬(l[j]?.map nm=some s):=fun j hj=>by
 rcases Nat.lt_succ_iff_lt_or_eq.1 hj with h'|rfl
 ·exact hK j h'
 ·rw[List.getElem?_eq_getElem hkl];simpa using h
theorem qsM{l:List qe7}(h:10<l.length):8=qdZ l:=by unfold qdZ;rw[if_pos h]
theorem qsN{l:List qe7}(h:¬10<l.length):qdZ l=qg4 (·.name) (fun z=>Geo.polyE z.corners) l:=by unfold qdZ;rw[if_neg h]
theorem qpD(l:List qe7)(hl:l.length≤9223372036854775807):Contract Tryz.prog 90 [.sl (l.map qbw)] (.ret (.int .i64 (qdZ l))):=by
 refine zT mix Tryz.func90 Tryz.ntmps90 Tryz.results90 rfl rfl rfl ?_;simp only[qab,Nat.reduceAdd]
 repeat'(first|((with_reducible (show evG _ _ (.region 3 _ _) _ _));(with_reducible apply qbM))|((with_reducible apply qdD);rfl)|(with_reducible apply qf2)|(with_reducible apply qcY)|(with_reducible apply qd6)|refine zS ?_|refine zA ?_|(refine zC ?_ ?_<;>first|intro h|simp)|refine zE ?_|fail)
 ·exact qsM (by omega)
 rw[qsN (by omega)]
 refine qad l.length (fun i=>⟨[(3,.om 0),(13,.int .i64 i),(11,.sl (l.map qbw)),(12,.int .i64 l.length)],[(0,⟨0,true,(l.take i).map fun x=>[.str x.name,.bool true]⟩)],32,37⟩) (fun i=>∀j,j<i→qcf (·.name) (fun z=>Geo.polyE z.corners) l j=0) (qaa (nx:=32) (k:=0) (ns:=[]) (ks:=[3,13,11,12]) [(128,0)] rfl (by simp) (by kernel_rfl)) (by omega) ?_
 intro i hi hC
 by_cases hlt:i<l.length
 rotate_left
 ·repeat'(first|refine zQ ?_|(refine zI ?_;intro hlt)|(refine zC ?_ ?_<;>first|intro h|simp)|refine zE ?_|fail)
  all_goals first
   |exact absurd hlt (by omega)
   |exact(qaC fun j hj=>hC j (by omega)).symm
   |trace_state
 have h1:=qpC l[i].name
 by_cases hn:qaZ l[i].name=true
 rotate_left
 ·have hn':qaZ l[i].name=false:=by simpa using hn
  rw[hn']at h1
  repeat'(first|refine zQ ?_|refine zF h1 ?_|(refine zI ?_;intro hlt)|(refine zC ?_ ?_<;>first|intro h|simp)|refine zE ?_|fail)
  all_goals first
   |exact absurd hlt (by omega)
   |exact qaV hlt hC (qna hlt hn') (by decide)
   |trace_state
 rw[hn]at h1
 by_cases ha:((l.take i).any fun y=>decide (y.name=l[i].name))=true
 ·have hf:=qim (nm:=fun x:qe7=>x.name) ha
  repeat'(first|((with_reducible apply qb1);rfl;rfl;rfl;rfl;(exact hf);rfl;rfl)|refine zS ?_|refine zA ?_|refine zF h1 ?_|(refine zI ?_;intro hlt)|(refine zC ?_ ?_<;>first|intro h|simp)|refine zE ?_|fail)
  all_goals first
   |exact absurd hlt (by omega)
   |exact qaV hlt hC (qnb hlt hn ha) (by decide)
   |trace_state
 have ha':((l.take i).any fun y=>decide (y.name=l[i].name))=false:=by simpa using ha
 have hf:=qlt (nm:=fun x:qe7=>x.name) ha'
 have hs:=qnc (er:=fun z:qe7=>Geo.polyE z.corners) hlt hn ha'
 have h3:=Geo.c_CheckPolygon l[i].corners
 repeat'(first|((with_reducible apply qb1);rfl;rfl;rfl;rfl;(exact hf);rfl;rfl)|((with_reducible (show evG _ _ (.region 11 _ _) _ _));(with_reducible apply qbM))|((with_reducible apply qeq);rfl;rfl;rfl;rfl;rfl;rfl;(exact hf);rfl)|(with_reducible apply qf2)|(with_reducible apply qcY)|(with_reducible apply qd6)|refine zS ?_|refine zA ?_|refine zF h1 ?_|refine zF h3 ?_|(refine zI ?_;intro hlt)|(refine zC ?_ ?_<;>first|intro h|simp)|refine zE ?_|fail)
 all_goals first
  |exact absurd hlt (by omega)
  |exact qaV hlt hC hs (by assumption)
  |(refine⟨hlt,qaQ hC (hs.trans (by assumption)),?_⟩
    show qcr _ ⟨[(3,.om 0),(13,.int .i64 (i+1:Nat)),(11,.sl (l.map qbw)),(12,.int .i64 l.length)],[(0,⟨0,true,(l.take (i+1)).map fun x=>[.str x.name,.bool true]⟩)],32,37⟩
    rw[List.take_succ_eq_append_getElem hlt,List.map_append]
    exact qaa (nx:=32) (k:=0) (ns:=[]) (ks:=[3,13,11,12]) [(0,0)] rfl (by simp) (by kernel_rfl))
  |trace_state
theorem qpE(l:List qe7)(hl:l.length≤9223372036854775807):Contract Tryz.prog 99 [.sl (l.map qbw)] (.ret (.int .i64 (qdZ l))):=by
 refine zT mix Tryz.func99 Tryz.ntmps99 Tryz.results99 rfl rfl rfl ?_;simp only[qab,Nat.reduceAdd]
 repeat'(first|refine zQ ?_|(refine zC ?_ ?_<;>first|intro h|simp)|refine zE ?_|fail)
 ·exact qsM (by omega)
 rw[qsN (by omega)]
 refine qad l.length (fun i=>⟨[(3,.int .i64 i),(0,.sl (l.map qbw))],[],32,47⟩) (fun i=>∀j,j<i→qcf (·.name) (fun z=>Geo.polyE z.corners) l j=0) (qaa (nx:=32) (k:=0) (ns:=[]) (ks:=[3,0]) [] rfl (by simp) (by kernel_rfl)) (by omega) ?_
 intro i hi hC
 by_cases hlt:i<l.length
 rotate_left
 ·repeat'(first|refine zQ ?_|(refine zI ?_;intro hlt)|(refine zC ?_ ?_<;>first|intro h|simp)|refine zE ?_|fail)
  all_goals first
   |exact absurd hlt (by omega)
   |exact(qaC fun j hj=>hC j (by omega)).symm
   |trace_state
 have h1:=c83 l[i].name
 by_cases hn:qaZ l[i].name=true
 rotate_left
 ·have hn':qaZ l[i].name=false:=by simpa using hn
  rw[hn']at h1
  repeat'(first|refine zQ ?_|refine zF h1 ?_|(refine zI ?_;intro hlt)|(refine zC ?_ ?_<;>first|intro h|simp)|refine zE ?_|fail)
  all_goals first
   |exact absurd hlt (by omega)
   |exact qaV hlt hC (qna hlt hn') (by decide)
   |trace_state
 rw[hn]at h1
 repeat'(first|refine zQ ?_|refine zF h1 ?_|(refine zI ?_;intro hlt)|(refine zC ?_ ?_<;>first|intro h|simp)|refine zE ?_|fail)
 all_goals try exact absurd hlt (by omega)
 refine qad i (fun k=>⟨[(4,.int .i64 k),(3,.int .i64 i),(0,.sl (l.map qbw))],[],32,47⟩) (fun k=>∀j (hj:j<k),¬(l[j]?.map (·.name)=some l[i].name)) (qaa (nx:=32) (k:=0) (ns:=[]) (ks:=[4,3,0]) [] rfl (by simp) (by kernel_rfl)) (by omega) ?_
 intro k hk hK
 by_cases hlk:k<i
 ·have hkl:k<l.length:=by omega
  repeat'(first|refine zQ ?_|(refine zI ?_;intro hlt)|(refine zC ?_ ?_<;>first|intro h|simp)|((with_reducible apply qaz);rfl;rfl)|refine zE ?_|fail)
  all_goals try simp only[Int.toNat_natCast]at*
  all_goals first
   |exact absurd hlk (by omega)
   |exact qaV hlt hC (qnb hlt hn (qin hlk hkl (by assumption))) (by decide)
   |(refine⟨by omega,qgu hkl hK (by assumption),qaa (nx:=32) (k:=0) (ns:=[]) (ks:=[4,3,0]) [] rfl (by simp) (by kernel_rfl)⟩)
   |trace_state
 ·obtain rfl:k=i:=by omega
  have hs:=qnc (er:=fun z:qe7=>Geo.polyE z.corners) hlt hn (qlu hK)
  have h3:=Geo.c_rCheckPolygon l[k].corners
  repeat'(first|refine zQ ?_|refine zF h3 ?_|(refine zI ?_;intro hlt)|(refine zC ?_ ?_<;>first|intro h|simp)|((with_reducible apply qaz);rfl;rfl)|refine zE ?_|fail)
  all_goals first
   |exact absurd (show k<k by omega) hlk
   |exact qaV hlt hC hs (by assumption)
   |(refine⟨hlt,qaQ hC (hs.trans (by assumption)),qaa (nx:=32) (k:=0) (ns:=[]) (ks:=[3,0]) [] rfl (by simp) (by kernel_rfl)⟩)
   |trace_state
theorem qsO{l:List Quay}(h:5<l.length):8=qeb l:=by unfold qeb;rw[if_pos h]
theorem qsP{l:List Quay}(h:¬5<l.length):qeb l=qcK l.length (qlr l):=by unfold qeb;rw[if_neg h]
theorem qrc{l:List Quay}{i:Nat}(hi:i<l.length)(h:qe8 l[i]≠0):qlr l i=qe8 l[i]:=by simp only[qlr,List.getElem?_eq_getElem hi];rw[if_pos h]
theorem qxr{l:List Quay}{i:Nat}(hi:i<l.length)(h:qe8 l[i]=0)(h2:((l.take i).any fun y=>decide (y.name=l[i].name))=true):qlr l i=5:=by simp only[qlr,List.getElem?_eq_getElem hi];rw[if_neg (not_not_intro h),if_pos h2]
theorem qxs{l:List Quay}{i:Nat}(hi:i<l.length)(h:qe8 l[i]=0)(h2:((l.take i).any fun y=>decide (y.name=l[i].name))=false):qlr l i=0:=by simp only[qlr,List.getElem?_eq_getElem hi];rw[if_neg (not_not_intro h),if_neg (by simp[h2])]
theorem qpF(l:List Quay)(hl:l.length≤9223372036854775807):Contract Tryz.prog 92 [.sl (l.map qct)] (.ret (.int .i64 (qeb l))):=by
 refine zT mix Tryz.func92 Tryz.ntmps92 Tryz.results92 rfl rfl rfl ?_;simp only[qab,Nat.reduceAdd]
 repeat'(first|((with_reducible (show evG _ _ (.region 3 _ _) _ _));(with_reducible apply qbM))|((with_reducible apply qdD);rfl)|(with_reducible apply qf2)|(with_reducible apply qcY)|(with_reducible apply qd6)|refine zS ?_|refine zA ?_|(refine zC ?_ ?_<;>first|intro h|simp)|refine zE ?_|fail)
 ·exact qsO (by omega)
 rw[qsP (by omega)]
 refine qad l.length (fun i=>⟨[(3,.om 0),(13,.int .i64 i),(11,.sl (l.map qct)),(12,.int .i64 l.length)],[(0,⟨0,true,(l.take i).map fun x=>[.str x.name,.bool true]⟩)],32,30⟩) (fun i=>∀j,j<i→qlr l j=0) (qaa (nx:=32) (k:=0) (ns:=[]) (ks:=[3,13,11,12]) [(128,0)] rfl (by simp) (by kernel_rfl)) (by omega) ?_
 intro i hi hC
 by_cases hlt:i<l.length
 rotate_left
 ·repeat'(first|refine zQ ?_|(refine zI ?_;intro hlt)|(refine zC ?_ ?_<;>first|intro h|simp)|refine zE ?_|fail)
  all_goals first
   |exact absurd hlt (by omega)
   |exact(qaC fun j hj=>hC j (by omega)).symm
   |trace_state
 have h1:=qKj l[i]
 by_cases ha:((l.take i).any fun y=>decide (y.name=l[i].name))=true
 ·have hf:=qim (nm:=fun x:Quay=>x.name) ha
  repeat'(first|((with_reducible apply qb1);rfl;rfl;rfl;rfl;(exact hf);rfl;rfl)|refine zS ?_|refine zA ?_|refine zF h1 ?_|(refine zI ?_;intro hlt)|(refine zC ?_ ?_<;>first|intro h|simp)|refine zE ?_|fail)
  all_goals first
   |exact absurd hlt (by omega)
   |exact qat hlt hC (qrc hlt (by assumption)) (by assumption)
   |exact qat hlt hC (qxr hlt (by assumption) ha) (by decide)
   |trace_state
 have ha':((l.take i).any fun y=>decide (y.name=l[i].name))=false:=by simpa using ha
 have hf:=qlt (nm:=fun x:Quay=>x.name) ha'
 repeat'(first|((with_reducible apply qb1);rfl;rfl;rfl;rfl;(exact hf);rfl;rfl)|((with_reducible (show evG _ _ (.region 12 _ _) _ _));(with_reducible apply qbM))|((with_reducible apply qeq);rfl;rfl;rfl;rfl;rfl;rfl;(exact hf);rfl)|(with_reducible apply qf2)|(with_reducible apply qcY)|(with_reducible apply qd6)|refine zS ?_|refine zA ?_|refine zF h1 ?_|(refine zI ?_;intro hlt)|(refine zC ?_ ?_<;>first|intro h|simp)|refine zE ?_|fail)
 all_goals first
  |exact absurd hlt (by omega)
  |exact qat hlt hC (qrc hlt (by assumption)) (by assumption)
  |(refine⟨hlt,qaQ hC (qxs hlt (by assumption) ha'),?_⟩
    show qcr _ ⟨[(3,.om 0),(13,.int .i64 (i+1:Nat)),(11,.sl (l.map qct)),(12,.int .i64 l.length)],[(0,⟨0,true,(l.take (i+1)).map fun x=>[.str x.name,.bool true]⟩)],32,30⟩
    rw[List.take_succ_eq_append_getElem hlt,List.map_append]
    exact qaa (nx:=32) (k:=0) (ns:=[]) (ks:=[3,13,11,12]) [(0,0)] rfl (by simp) (by kernel_rfl))
  |trace_state
theorem qpG(l:List Quay)(hl:l.length≤9223372036854775807):Contract Tryz.prog 100 [.sl (l.map qct)] (.ret (.int .i64 (qeb l))):=by
 refine zT mix Tryz.func100 Tryz.ntmps100 Tryz.results100 rfl rfl rfl ?_;simp only[qab,Nat.reduceAdd]
 repeat'(first|refine zQ ?_|(refine zC ?_ ?_<;>first|intro h|simp)|refine zE ?_|fail)
 ·exact qsO (by omega)
 rw[qsP (by omega)]
 refine qad l.length (fun i=>⟨[(3,.int .i64 i),(0,.sl (l.map qct))],[],32,39⟩) (fun i=>∀j,j<i→qlr l j=0) (qaa (nx:=32) (k:=0) (ns:=[]) (ks:=[3,0]) [] rfl (by simp) (by kernel_rfl)) (by omega) ?_
 intro i hi hC
 by_cases hlt:i<l.length
 rotate_left
 ·repeat'(first|refine zQ ?_|(refine zI ?_;intro hlt)|(refine zC ?_ ?_<;>first|intro h|simp)|refine zE ?_|fail)
  all_goals first
   |exact absurd hlt (by omega)
   |exact(qaC fun j hj=>hC j (by omega)).symm
   |trace_state
 have h1:=c71 l[i]
 repeat'(first|refine zQ ?_|refine zF h1 ?_|(refine zI ?_;intro hlt)|(refine zC ?_ ?_<;>first|intro h|simp)|refine zE ?_|fail)
 all_goals try exact absurd hlt (by omega)
 all_goals try exact qat hlt hC (qrc hlt (by assumption)) (by assumption)
 refine qad i (fun k=>⟨[(5,.int .i64 k),(3,.int .i64 i),(0,.sl (l.map qct))],[],32,39⟩) (fun k=>∀j (hj:j<k),¬(l[j]?.map (·.name)=some l[i].name)) (qaa (nx:=32) (k:=0) (ns:=[]) (ks:=[5,3,0]) [] rfl (by simp) (by kernel_rfl)) (by omega) ?_
 intro k hk hK
 by_cases hlk:k<i
 ·have hkl:k<l.length:=by omega
  repeat'(first|refine zQ ?_|(refine zI ?_;intro hlt)|(refine zC ?_ ?_<;>first|intro h|simp)|((with_reducible apply qaz);rfl;rfl)|refine zE ?_|fail)
  all_goals try simp only[Int.toNat_natCast]at*
  all_goals first
   |exact absurd hlk (by omega)
   |exact qat hlt hC (qxr hlt (by assumption) (qin hlk hkl (by assumption))) (by decide)
   |(refine⟨by omega,qgu hkl hK (by assumption),qaa (nx:=32) (k:=0) (ns:=[]) (ks:=[5,3,0]) [] rfl (by simp) (by kernel_rfl)⟩)
   |trace_state
 ·obtain rfl:k=i:=by omega
  repeat'(first|refine zQ ?_|(refine zI ?_;intro hlt)|(refine zC ?_ ?_<;>first|intro h|simp)|((with_reducible apply qaz);rfl;rfl)|refine zE ?_|fail)
  all_goals first
   |exact absurd (show k<k by omega) hlk
   |(refine⟨hlt,qaQ hC (qxs hlt (by assumption) (qlu hK)),qaa (nx:=32) (k:=0) (ns:=[]) (ks:=[3,0]) [] rfl (by simp) (by kernel_rfl)⟩)
   |trace_state
theorem qhE{l:List Gauge}{i:Nat}(hi:i<l.length):qxk l i=if qaZ l[i].name=false then 4 else if((l.take i).any fun h=>decide (h.name=l[i].name))=true then 5 else if qoI l[i]≠0 then qoI l[i]else if 0<i∧l[i].x≤((l[i-1]?).map (·.x)).getD 0 then 9 else 0:=by
 simp only[qxk,List.getElem?_eq_getElem hi]
theorem qBt{l:List Gauge}{i:Nat}(hi:i<l.length)(h:qaZ l[i].name=false):qxk l i=4:=by rw[qhE hi,if_pos h]
theorem qBu{l:List Gauge}{i:Nat}(hi:i<l.length)(h:qaZ l[i].name=true)(h2:((l.take i).any fun h=>decide (h.name=l[i].name))=true):qxk l i=5:=by rw[qhE hi,if_neg (by simp[h]),if_pos h2]
theorem qsR{l:List Gauge}{i:Nat}(hi:i<l.length)(h:qaZ l[i].name=true)(h2:((l.take i).any fun h=>decide (h.name=l[i].name))=false)(h3:qoI l[i]≠0):qxk l i=qoI l[i]:=by rw[qhE hi,if_neg (by simp[h]),if_neg (by simp[h2]),if_pos h3]
theorem qBv{l:List Gauge}{i:Nat}(hi:i<l.length)(h:qaZ l[i].name=true)(h2:((l.take i).any fun h=>decide (h.name=l[i].name))=false)(h3:qoI l[i]=0)(h0:0<i)(h1:l[i].x≤(l[i-1]'(by omega)).x):qxk l i=9:=by
 rw[qhE hi,if_neg (by simp[h]),if_neg (by simp[h2]),if_neg (not_not_intro h3),if_pos ⟨h0,by rw[List.getElem?_eq_getElem (by omega)];exact h1⟩]
theorem qsS{l:List Gauge}{i:Nat}(hi:i<l.length)(h:qaZ l[i].name=true)(h2:((l.take i).any fun h=>decide (h.name=l[i].name))=false)(h3:qoI l[i]=0)(h1:i=0∨∃h:i-1<l.length,¬l[i].x≤l[i-1].x):qxk l i=0:=by
 rw[qhE hi,if_neg (by simp[h]),if_neg (by simp[h2]),if_neg (not_not_intro h3),if_neg]
 rintro⟨h5,h6⟩
 rcases h1 with h1|⟨h4,h1⟩
 ·omega
 ·rw[List.getElem?_eq_getElem h4]at h6;exact h1 h6
theorem qpH{l:List Gauge}(h:6<l.length):8=qcg l:=by unfold qcg;rw[if_pos h]
theorem qpI{l:List Gauge}(h:¬6<l.length):qcg l=qcK l.length (qxk l):=by unfold qcg;rw[if_neg h]
theorem qE5(h g:Gauge):Contract Tryz.prog 170 [.agg (qax h),.ptr (qax g)] (.ret (.bool (decide (h.name=g.name)))):=by
 refine zT mix Tryz.func170 Tryz.ntmps170 Tryz.results170 rfl rfl rfl ?_;simp only[qab,Nat.reduceAdd]
 repeat'(first|(with_reducible rfl)|refine zQ ?_|((with_reducible apply qaz);rfl;rfl)|refine zE ?_|fail)
theorem qip(l:List Gauge)(hl:l.length≤9223372036854775807)(hml:∀g∈l,g.marks.length≤9223372036854775807):Contract Tryz.prog 94 [.sl (l.map qax)] (.ret (.int .i64 (qcg l))):=by
 refine zT mix Tryz.func94 Tryz.ntmps94 Tryz.results94 rfl rfl rfl ?_;simp only[qab,Nat.reduceAdd]
 repeat'(first|refine zQ ?_|(refine zC ?_ ?_<;>first|intro h|simp)|refine zE ?_|fail)
 ·exact qpH (by omega)
 rw[qpI (by omega)]
 refine qad l.length (fun i=>⟨[(11,.int .i64 i),(9,.sl (l.map qax)),(10,.int .i64 l.length),(0,.sl (l.map qax))],[],32,44⟩) (fun i=>∀j,j<i→qxk l j=0) (qaa (nx:=32) (k:=0) (ns:=[]) (ks:=[11,9,10,0]) [] rfl (by simp) (by kernel_rfl)) (by omega) ?_
 intro i hi hC
 by_cases hL:i<l.length
 rotate_left
 ·repeat'(first|refine zQ ?_|(refine zI ?_;intro hlt)|(refine zC ?_ ?_<;>first|intro h|simp)|refine zE ?_|fail)
  all_goals first
   |exact absurd hL (by omega)
   |exact(qaC fun j hj=>hC j (by omega)).symm
   |trace_state
 have h1:=qCU l[i].name
 by_cases hn:qaZ l[i].name=true
 rotate_left
 ·have hn':qaZ l[i].name=false:=by simpa using hn
  rw[hn']at h1
  repeat'(first|refine zQ ?_|refine zF h1 ?_|(refine zI ?_;intro hlt)|(refine zC ?_ ?_<;>first|intro h|simp)|refine zE ?_|fail)
  all_goals first
   |exact absurd hL (by omega)
   |exact qat hL hC (qBt hL hn') (by decide)
   |trace_state
 rw[hn]at h1
 have h2:=qCT (l.take i) (by rw[List.length_take];omega) 170 [.ptr (qax l[i])] (fun _ _=>rfl) rfl (fun h=>decide (h.name=l[i].name)) fun x _=>qE5 x l[i]
 have h3:=qzZ l[i] (hml _ (List.getElem_mem _))
 by_cases ha:((l.take i).any fun y=>decide (y.name=l[i].name))=true
 ·rw[ha]at h2
  repeat'(first|refine zQ ?_|refine zF h1 ?_|refine zF h2 ?_|(refine zI ?_;intro hlt)|(refine zC ?_ ?_<;>first|intro h|simp)|refine zE ?_|fail)
  all_goals first
   |exact absurd hL (by omega)
   |exact qat hL hC (qBu hL hn ha) (by decide)
   |trace_state
 have ha':((l.take i).any fun y=>decide (y.name=l[i].name))=false:=by simpa using ha
 rw[ha']at h2
 by_cases h0:0<i
 ·have hp:=qkk h0
  repeat'(first|refine zQ ?_|refine zF h1 ?_|refine zF h2 ?_|refine zF h3 ?_|(refine zI ?_;intro hlt)|(refine zC ?_ ?_<;>first|intro h|simp)|(refine zG ?_ ?_<;>first|intro h|simp)|refine zE ?_|fail)
  all_goals try simp only[hp]at*
  all_goals first
   |exact absurd hL (by omega)
   |exact absurd h0 (by omega)
   |exact qat hL hC (qsR hL hn ha' (by assumption)) (by assumption)
   |exact qat hL hC (qBv hL hn ha' (by assumption) h0 (by assumption)) (by decide)
   |(refine⟨hL,qaQ hC (qsS hL hn ha' (by assumption) (.inr ⟨by omega,by assumption⟩)),qaa (nx:=32) (k:=0) (ns:=[]) (ks:=[11,9,10,0]) [] rfl (by simp) (by kernel_rfl)⟩)
   |trace_state
 ·repeat'(first|refine zQ ?_|refine zF h1 ?_|refine zF h2 ?_|refine zF h3 ?_|(refine zI ?_;intro hlt)|(refine zC ?_ ?_<;>first|intro h|simp)|(refine zG ?_ ?_<;>first|intro h|simp)|refine zE ?_|fail)
  all_goals first
   |exact absurd hL (by omega)
   |exact absurd (show 0<i by omega) h0
   |exact qat hL hC (qsR hL hn ha' (by assumption)) (by assumption)
   |(refine⟨hL,qaQ hC (qsS hL hn ha' (by assumption) (.inl (by omega))),qaa (nx:=32) (k:=0) (ns:=[]) (ks:=[11,9,10,0]) [] rfl (by simp) (by kernel_rfl)⟩)
   |trace_state
theorem qoc(l:List Gauge)(hl:l.length≤9223372036854775807)(hml:∀g∈l,g.marks.length≤9223372036854775807):Contract Tryz.prog 101 [.sl (l.map qax)] (.ret (.int .i64 (qcg l))):=by
 refine zT mix Tryz.func101 Tryz.ntmps101 Tryz.results101 rfl rfl rfl ?_;simp only[qab,Nat.reduceAdd]
 repeat'(first|refine zQ ?_|(refine zC ?_ ?_<;>first|intro h|simp)|refine zE ?_|fail)
 ·exact qpH (by omega)
 rw[qpI (by omega)]
 refine qad l.length (fun i=>⟨[(3,.int .i64 i),(0,.sl (l.map qax))],[],32,62⟩) (fun i=>∀j,j<i→qxk l j=0) (qaa (nx:=32) (k:=0) (ns:=[]) (ks:=[3,0]) [] rfl (by simp) (by kernel_rfl)) (by omega) ?_
 intro i hi hC
 by_cases hL:i<l.length
 rotate_left
 ·repeat'(first|refine zQ ?_|(refine zI ?_;intro hlt)|(refine zC ?_ ?_<;>first|intro h|simp)|refine zE ?_|fail)
  all_goals first
   |exact absurd hL (by omega)
   |exact(qaC fun j hj=>hC j (by omega)).symm
   |trace_state
 have h1:=c83 l[i].name
 by_cases hn:qaZ l[i].name=true
 rotate_left
 ·have hn':qaZ l[i].name=false:=by simpa using hn
  rw[hn']at h1
  repeat'(first|refine zQ ?_|refine zF h1 ?_|(refine zI ?_;intro hlt)|(refine zC ?_ ?_<;>first|intro h|simp)|refine zE ?_|fail)
  all_goals first
   |exact absurd hL (by omega)
   |exact qat hL hC (qBt hL hn') (by decide)
   |trace_state
 rw[hn]at h1
 repeat'(first|refine zQ ?_|refine zF h1 ?_|(refine zI ?_;intro hlt)|(refine zC ?_ ?_<;>first|intro h|simp)|refine zE ?_|fail)
 all_goals try exact absurd hL (by omega)
 refine qad i (fun k=>⟨[(4,.int .i64 k),(3,.int .i64 i),(0,.sl (l.map qax))],[],32,62⟩) (fun k=>∀j (hj:j<k),¬(l[j]?.map (·.name)=some l[i].name)) (qaa (nx:=32) (k:=0) (ns:=[]) (ks:=[4,3,0]) [] rfl (by simp) (by kernel_rfl)) (by omega) ?_
 intro k hk hK
 by_cases hlk:k<i
 ·have hkl:k<l.length:=by omega
  repeat'(first|refine zQ ?_|(refine zI ?_;intro hlt)|(refine zC ?_ ?_<;>first|intro h|simp)|((with_reducible apply qaz);rfl;rfl)|refine zE ?_|fail)
  all_goals try simp only[Int.toNat_natCast]at*
  all_goals first
   |exact absurd hlk (by omega)
   |exact qat hL hC (qBu hL hn (qin hlk hkl (by assumption))) (by decide)
   |(refine⟨by omega,qgu hkl hK (by assumption),qaa (nx:=32) (k:=0) (ns:=[]) (ks:=[4,3,0]) [] rfl (by simp) (by kernel_rfl)⟩)
   |trace_state
 ·obtain rfl:k=i:=by omega
  have ha':=qlu hK
  have h3:=qz0 l[k] (hml _ (List.getElem_mem _))
  by_cases h0:0<k
  ·have hp:=qkk h0
   repeat'(first|refine zQ ?_|refine zF h3 ?_|(refine zI ?_;intro hlt)|(refine zC ?_ ?_<;>first|intro h|simp)|(refine zG ?_ ?_<;>first|intro h|simp)|((with_reducible apply qaz);rfl;rfl)|refine zE ?_|fail)
   all_goals try simp only[hp,Int.toNat_natCast]at*
   all_goals first
    |exact absurd (show k<k by omega) hlk
    |exact absurd h0 (by omega)
    |exact qat hL hC (qsR hL hn ha' (by assumption)) (by assumption)
    |exact qat hL hC (qBv hL hn ha' (by assumption) h0 (by assumption)) (by decide)
    |(refine⟨hL,qaQ hC (qsS hL hn ha' (by assumption) (.inr ⟨by omega,by assumption⟩)),qaa (nx:=32) (k:=0) (ns:=[]) (ks:=[3,0]) [] rfl (by simp) (by kernel_rfl)⟩)
    |trace_state
  ·repeat'(first|refine zQ ?_|refine zF h3 ?_|(refine zI ?_;intro hlt)|(refine zC ?_ ?_<;>first|intro h|simp)|(refine zG ?_ ?_<;>first|intro h|simp)|((with_reducible apply qaz);rfl;rfl)|refine zE ?_|fail)
   all_goals first
    |exact absurd (show k<k by omega) hlk
    |exact absurd (show 0<k by omega) h0
    |exact qat hL hC (qsR hL hn ha' (by assumption)) (by assumption)
    |(refine⟨hL,qaQ hC (qsS hL hn ha' (by assumption) (.inl (by omega))),qaa (nx:=32) (k:=0) (ns:=[]) (ks:=[3,0]) [] rfl (by simp) (by kernel_rfl)⟩)
    |trace_state
end Go.Pv.Soil

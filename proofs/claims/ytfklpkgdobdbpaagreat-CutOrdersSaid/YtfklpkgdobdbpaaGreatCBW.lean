import Derived.Test.YtfklpkgdobdbpaaGreatCBV
/- Part of the proofs over YtfklpkgdobdbpaaGreat: N57, N50, N55, N59, N61, N65. -/
set_option linter.unusedVariables false
set_option linter.unusedSimpArgs false
set_option linter.unnecessarySimpa false
open Go Go.Proofs Go.Pv
set_option maxHeartbeats 8000000
set_option maxRecDepth 100000
set_option linter.unusedSimpArgs false
set_option linter.unusedVariables false
namespace Go.Pv.Soil
def qD9:Cut:=⟨"a".toUTF8, "c".toUTF8,0,0,2,1,-600,0⟩
def qBN:Cut:=⟨"b".toUTF8, "c".toUTF8,0,0,1,1,-700,0⟩
noncomputable def qaq(s:Site)(l:List Cut)(set k:Nat):Int:=if qiF set k=false then qou s l set k else 0
def qaK(s:Site)(l:List Cut)(set k:Nat):Int:=if qiF set k=false then qtD s l set k else 0
def qcm(n:Nat)(T:Nat→Nat→Int)(set j:Nat):List Int:=(List.range n).map fun k=>if k<j then T set k else 0
theorem qgY{n:Nat}{T:Nat→Nat→Int}{set j:Nat}:(qcm n T set j).length=n:=by simp[qcm]
theorem qiL{n:Nat}{T:Nat→Nat→Int}{set:Nat}:List.replicate n [D.int .i64 0]=(qcm n T set 0).map qal:=by
 apply List.ext_getElem
 ·simp[qgY]
 ·intro i h1 h2
  simp[qcm,qal]
theorem qiM{n:Nat}{T:Nat→Nat→Int}{set:Nat}:qcm n T set n=qfA n T set:=by
 unfold qcm qfA
 apply List.map_congr_left
 intro k hk
 rw[if_pos (List.mem_range.1 hk)]
theorem qgG{n:Nat}{T:Nat→Nat→Int}{set j:Nat}(hj:j<n):(qcm n T set j).set j (T set j)=qcm n T set (j+1):=by
 apply List.ext_getElem
 ·simp[qcm]
 ·intro i h1 h2
  have hi:i<n:=by simpa[qcm]using h2
  rw[List.getElem_set]
  simp only[qcm,List.getElem_map,List.getElem_range]
  split
  ·rename_i e;subst e;rw[if_pos (by omega)]
  ·by_cases h:i<j
   ·rw[if_pos h,if_pos (by omega)]
   ·rw[if_neg h,if_neg (by omega)]
theorem qiN{n:Nat}{T:Nat→Nat→Int}{set j:Nat}(hj:j<n)(h:T set j=0):qcm n T set (j+1)=qcm n T set j:=by
 rw[←qgG hj,h]
 exact Ord.set_same (by rw[qgY];exact hj) (by simp[qcm])
theorem qqs{n:Nat}{T:Nat→Nat→Int}:[qfA n T 0]=qaX n T 1:=rfl
theorem qAI{hq:Nat→Option Blk}{n i:Nat}{a b:List (List Int)}(h1:hq 1=some ⟨3,false,[[.int .i64 n,.os 2 0 i,.os 3 0 i]]⟩)(h2:hq 2=some ⟨1,true,a.map qaJ⟩)(h3:hq 3=some ⟨1,true,b.map qaJ⟩)(ha:a.length=i)(hb:b.length=i):pur hq 64 (.op 1 0 0)=some (qeS n a b):=by
 have e1:∀m,pur hq (m+1) (.os 2 0 i)=some (.sl (a.map qaJ)):=fun m=>qfL h2 (by simp[ha])
 have e2:∀m,pur hq (m+1) (.os 3 0 i)=some (.sl (b.map qaJ)):=fun m=>qfL h3 (by simp[hb])
 have e3:pur hq 64 (.op 1 0 0)=(qbX hq 63 [.int .i64 n,.os 2 0 i,.os 3 0 i]).map .ptr:=by
  show(hq 1).bind _=_
  rw[h1]
  rfl
 rw[e3]
 show((pur hq 62 (.int .i64 n)).bind fun d'=>(qbX hq 62 [.os 2 0 i,.os 3 0 i]).map (d':: ·)).map D.ptr=_
 have e4:qbX hq 62 [.os 2 0 i,.os 3 0 i]=some [.sl (a.map qaJ),.sl (b.map qaJ)]:=by
  show(pur hq 61 (.os 2 0 i)).bind (fun d'=>((pur hq 60 (.os 3 0 i)).bind fun d'=>(qbX hq 60 []).map (d':: ·)).map (d':: ·))=_
  rw[e1 60,e2 59]
  rfl
 rw[e4]
 rfl
theorem qyF:qfm encCut 8:=fun _=>⟨rfl,rfl⟩
theorem qoA(s:Site)(hz:Sized s)(hs:OkSite s)(h100:s.bed.levels.length≤100)(l:List Cut)(h0:qcy s l=0)(hl8:l.length≤8):
  Contract Tryz.prog 114 [.agg (encSite s),.sl (l.map encCut)] (.ret (.tup [qeS l.length (qaX l.length (qaq s l) (2^l.length)) (qaX l.length (qaK s l) (2^l.length)),.int .i64 0])):=by
 obtain⟨hll,hl⟩:=qd7 h0
 have hp8:=qy6 hl8
 have h1:=qdK s hz l (by omega) (by have:=hs.dreds;omega)
 rw[h0]at h1
 obtain⟨N,hN⟩:∃N,N=2^l.length:=⟨_,rfl⟩
 rw[←hN]at hp8 ⊢
 refine zT mix Tryz.func114 Tryz.ntmps114 Tryz.results114 rfl rfl rfl ?_;simp only[qab,Nat.reduceAdd]
 repeat'(first|((with_reducible apply qce);rfl;rfl;rfl;omega)|((with_reducible apply qdF);rfl;rfl)|refine zS ?_|refine zA ?_|refine zF h1 ?_|(refine zC ?_ ?_<;>first|intro h|simp)|fail)
 all_goals try(exfalso;omega)
 rw[←hN]
 refine qad N (fun i=>match i with
  |0=>⟨[(35,.int .i64 ((0:Nat):Int)),(34,.int .i64 (N:Int)),(1,.sl (l.map encCut)),(2,.op 0 0 0),(7,.op 1 0 0)],[(0,⟨12,true,[encSite s]⟩),(1,⟨3,false,[[.int .i64 l.length,.nilsl,.nilsl]]⟩)],160,122⟩
  |i+1=>⟨[(35,.int .i64 ((i+1:Nat):Int)),(34,.int .i64 (N:Int)),(1,.sl (l.map encCut)),(2,.op 0 0 0),(7,.op 1 0 0)],[(0,⟨12,true,[encSite s]⟩),(1,⟨3,false,[[.int .i64 l.length,.os 2 0 (i+1),.os 3 0 (i+1)]]⟩),(2,⟨1,true,(qaX l.length (qaq s l) (i+1)).map qaJ⟩),(3,⟨1,true,(qaX l.length (qaK s l) (i+1)).map qaJ⟩)],160,122⟩) (fun _=>True) ?_ trivial ?_
 ·exact qaa (nx:=160) (k:=2) (ns:=[]) (ks:=[35,34,1,2,7]) [(0,0),(480,1)] rfl (by simp) (by kernel_rfl)
 intro i hi _
 by_cases hL:i<N
 rotate_left
 ·obtain⟨i,rfl⟩:∃j,i=j+1:=⟨i-1,by omega⟩
  have hiN:N=i+1:=by omega
  dsimp only
  repeat'(first|refine zQ ?_|(refine zC ?_ ?_<;>first|intro h|simp)|fail)
  all_goals try exact absurd (show i+1<N by omega) hL
  rw[hiN]
  exact qcF rfl rfl (qAI rfl rfl rfl qfx qfx) rfl
 cases i with
 |zero=>
  dsimp only
  have hi2:0<N:=hL
  repeat'(first|refine zA ?_|fail)
  all_goals try exact absurd hL (by omega)
  refine qbK ?_
  repeat'(first|(with_reducible apply qbD)|refine zA ?_|fail)
  all_goals try exact absurd hL (by omega)
  refine qbK ?_
  repeat'(first|refine zA ?_|(refine zC ?_ ?_<;>first|intro h|simp)|fail)
  all_goals try exact absurd hL (by omega)
  refine qbK ?_
  repeat'(first|refine zA ?_|fail)
  all_goals try exact absurd hL (by omega)
  refine qbK ?_
  repeat'(first|(with_reducible apply qbD)|refine zA ?_|fail)
  all_goals try exact absurd hL (by omega)
  refine qbK ?_
  repeat'(first|(with_reducible apply qbD)|refine zA ?_|fail)
  all_goals try exact absurd hL (by omega)
  refine Or.inr ⟨⟨[(9,.sl ((qcP l 0 l.length).map encCut)),(8,.int .i64 ((0:Nat):Int)),(35,.int .i64 ((0:Nat):Int)),(34,.int .i64 (N:Int)),(1,.sl (l.map encCut)),(2,.op 0 0 0),(7,.op 1 0 0)],[(0,⟨12,true,[encSite s]⟩),(1,⟨3,false,[[.int .i64 l.length,.nilsl,.nilsl]]⟩)],512,122⟩,?_,?_⟩
  rotate_left
  ·have hm:∀q (hq:q<(qcP l 0 l.length).length),OkCut s (qcP l 0 l.length)[q]:=fun q hi=>by
    obtain⟨j,hj,e⟩:=List.getElem_of_mem (qiH l.length _ (List.getElem_mem hi))
    rw[←e];exact hl j hj
   have h2:=qor s hs (qcP l 0 l.length) (by have:=qiI (l:=l) (set:=0) l.length;omega) hm
   rw[qot l.length (Nat.le_refl _)]at h2
   have hbo:=ql0 hs hl (set:=0) l.length
   have hbl:=hbo.len hs.bed
   change Contract _ _ _ (.ret (.agg (qag (qd3 s l 0))))at h2
   repeat'(first|refine zQ ?_|refine zF h2 ?_|fail)
   refine qfN (len:=l.length) (z:=.int .i64 0) rfl rfl (by kernel_rfl) rfl rfl (by kernel_rfl) (by omega) rfl ?_
   rw[show List.replicate l.length (qai (D.int .i64 0))=(qcm l.length (qaq s l) 0 0).map qal from qiL]
   repeat'(first|refine zA ?_|fail)
   refine qfN (len:=l.length) (z:=.int .i64 0) rfl rfl (by kernel_rfl) rfl rfl (by kernel_rfl) (by omega) rfl ?_
   rw[show List.replicate l.length (qai (D.int .i64 0))=(qcm l.length (qaK s l) 0 0).map qal from qiL]
   repeat'(first|refine zA ?_|fail)
   refine Or.inr ⟨⟨[(13,.sl ((qfA l.length (qaq s l) 0).map qal)),(14,.sl ((qfA l.length (qaK s l) 0).map qal)),(8,.int .i64 ((0:Nat):Int)),(35,.int .i64 ((0:Nat):Int)),(34,.int .i64 (N:Int)),(1,.sl (l.map encCut)),(2,.op 0 0 0),(7,.op 1 0 0)],[(0,⟨12,true,[encSite s]⟩),(1,⟨3,false,[[.int .i64 l.length,.nilsl,.nilsl]]⟩)],256,122⟩,?_,?_⟩
   ·repeat'(first|refine zQ ?_|fail)
    refine qad l.length (fun k=>⟨[(66,.int .i64 k),(65,.int .i64 l.length),(64,.sl (l.map encCut)),(13,.os 5 0 l.length),(14,.os 6 0 l.length),(12,.op 4 0 0),(8,.int .i64 ((0:Nat):Int)),(35,.int .i64 ((0:Nat):Int)),(34,.int .i64 (N:Int)),(1,.sl (l.map encCut)),(2,.op 0 0 0),(7,.op 1 0 0)],[(5,⟨1,true,(qcm l.length (qaq s l) 0 k).map qal⟩),(6,⟨1,true,(qcm l.length (qaK s l) 0 k).map qal⟩),(4,⟨6,false,[qag (qd3 s l 0)]⟩),(0,⟨12,true,[encSite s]⟩),(1,⟨3,false,[[.int .i64 l.length,.nilsl,.nilsl]]⟩)],256,122⟩) (fun k=>True) ?_ trivial ?_
    ·exact qaa (nx:=256) (k:=0) (ns:=[]) (ks:=[66,65,64,13,14,12,8,35,34,1,2,7]) [(736,5),(832,6),(608,4),(0,0),(1,1)] rfl (by simp) (by kernel_rfl)
    intro k hk _
    have hpl1:=qgY (n:=l.length) (T:=qaq s l) (set:=0) (j:=k)
    have hpl2:=qgY (n:=l.length) (T:=qaK s l) (set:=0) (j:=k)
    by_cases hK:k<l.length
    ·have hps:=qgG (T:=qaq s l) (set:=0) hK
     have hpp:=qgG (T:=qaK s l) (set:=0) hK
     cases hb:qiF 0 k with
     |true=>
      have hm:0/2^k%2=1:=of_decide_eq_true hb
      rw[qiN (T:=qaq s l) (set:=0) hK (by unfold qaq;rw[if_neg (by rw[hb];simp)]),qiN (T:=qaK s l) (set:=0) hK (by unfold qaK;rw[if_neg (by rw[hb];simp)])]
      repeat'(first|((with_reducible apply qdx);rfl;rfl;rfl;omega)|((with_reducible apply qeD);rfl;rfl;rfl)|refine zS ?_|refine zA ?_|(refine zI ?_;intro hlt)|(refine zC ?_ ?_<;>first|intro h|simp)|fail)
      all_goals try exact absurd hK (by omega)
      all_goals try(exfalso;omega)
      exact⟨hK,trivial,qaa (nx:=256) (k:=0) (ns:=[]) (ks:=[66,65,64,13,14,12,8,35,34,1,2,7]) [(5,5),(6,6),(4,4),(0,0),(1,1)] rfl (by simp) (by kernel_rfl)⟩
     |false=>
      have hm:0/2^k%2=0:=by have:=of_decide_eq_false hb;omega
      have er:qaq s l 0 k=qAA (qfg s (qd3 s l 0) l[k]):=by unfold qaq qou;rw[if_pos hb,List.getElem?_eq_getElem hK]
      have ep:qaK s l 0 k=(qcq s (qd3 s l 0) l[k]).2.1:=by unfold qaK qtD;rw[if_pos hb,List.getElem?_eq_getElem hK]
      have h3:=qiB s hz hs (qd3 s l 0) hbo (by unfold qd3;omega) l[k] (hl k hK)
      have h4:Contract Tryz.prog 123 [.agg (encSite s),.agg (qag (qd3 s l 0)),.agg (encCut l[k])] (.ret (.tup [.int .i64 (qcq s (qd3 s l 0) l[k]).1,.int .i64 (qcq s (qd3 s l 0) l[k]).2.1,.bool (qcq s (qd3 s l 0) l[k]).2.2])):=qiz s hs hz (qd3 s l 0) hbo (by unfold qd3;omega) l[k] (hl k hK)
      rw[er]at hps
      rw[ep]at hpp
      generalize qfg s (qd3 s l 0) l[k]=o at*
      generalize qcq s (qd3 s l 0) l[k]=ef at*
      generalize qd3 s l 0=bg at*
      have ho:(o=none)∨∃r c,o=some (r,c):=by cases o with|none=>exact .inl rfl|some v=>exact .inr ⟨v.1,v.2,rfl⟩
      rcases ho with rfl|⟨r,c,rfl⟩
      ·repeat'(first|((with_reducible apply qdx);rfl;rfl;rfl;omega)|((with_reducible apply qeD);rfl;rfl;rfl)|refine zS ?_|refine zA ?_|refine zF h3 ?_|(refine zI ?_;intro hlt)|(refine zC ?_ ?_<;>first|intro h|simp)|fail)
       all_goals try exact absurd hK (by omega)
       all_goals try(exfalso;omega)
       refine qaF (f:=qal) (l:=qcm l.length (qaq s l) 0 k) (a:=0) rfl rfl rfl (by omega) rfl rfl rfl rfl (Nat.le_refl _) rfl ?_
       repeat'(first|refine zQ ?_|refine zF h4 ?_|(refine zI ?_;intro hlt)|fail)
       refine qaF (f:=qal) (l:=qcm l.length (qaK s l) 0 k) (a:=ef.2.1) rfl rfl rfl (by omega) rfl rfl rfl rfl (Nat.le_refl _) rfl ?_
       repeat'(first|refine zQ ?_|fail)
       refine⟨hK,trivial,?_⟩
       rw[show(qcm l.length (qaq s l) 0 k).set k 0=qcm l.length (qaq s l) 0 (k+1)from hps,hpp]
       exact qaa (nx:=256) (k:=0) (ns:=[]) (ks:=[66,65,64,13,14,12,8,35,34,1,2,7]) [(5,5),(6,6),(4,4),(0,0),(1,1)] rfl (by simp) (by kernel_rfl)
      ·repeat'(first|((with_reducible apply qdx);rfl;rfl;rfl;omega)|((with_reducible apply qeD);rfl;rfl;rfl)|refine zS ?_|refine zA ?_|refine zF h3 ?_|(refine zI ?_;intro hlt)|(refine zC ?_ ?_<;>first|intro h|simp)|fail)
       all_goals try exact absurd hK (by omega)
       all_goals try(exfalso;omega)
       refine qaF (f:=qal) (l:=qcm l.length (qaq s l) 0 k) (a:=r) rfl rfl rfl (by omega) rfl rfl rfl rfl (Nat.le_refl _) rfl ?_
       repeat'(first|refine zQ ?_|refine zF h4 ?_|(refine zI ?_;intro hlt)|fail)
       refine qaF (f:=qal) (l:=qcm l.length (qaK s l) 0 k) (a:=ef.2.1) rfl rfl rfl (by omega) rfl rfl rfl rfl (Nat.le_refl _) rfl ?_
       repeat'(first|refine zQ ?_|fail)
       refine⟨hK,trivial,?_⟩
       rw[show(qcm l.length (qaq s l) 0 k).set k r=qcm l.length (qaq s l) 0 (k+1)from hps,hpp]
       exact qaa (nx:=256) (k:=0) (ns:=[]) (ks:=[66,65,64,13,14,12,8,35,34,1,2,7]) [(5,5),(6,6),(4,4),(0,0),(1,1)] rfl (by simp) (by kernel_rfl)
    ·obtain rfl:k=l.length:=by omega
     repeat'(first|refine zQ ?_|(refine zI ?_;intro hlt)|(refine zC ?_ ?_<;>first|intro h|simp)|((with_reducible apply qaz);rfl;rfl)|fail)
     all_goals try exact absurd (show l.length<l.length by omega) hK
     rw[qiM,qiM]
     exact(qm3 [5,6] [(13,.sl ((qfA l.length (qaq s l) 0).map qal)),(14,.sl ((qfA l.length (qaK s l) 0).map qal))] (fun x hx=>by
      simp only[List.mem_cons,List.not_mem_nil,or_false]at hx
      rcases hx with rfl|rfl
      ·exact qfL (m:=63) (k:=1) rfl (by simp[qfA])
      ·exact qfL (m:=63) (k:=1) rfl (by simp[qfA]))).trans (qaa (nx:=256) (k:=0) (ns:=[]) (ks:=[13,14,8,35,34,1,2,7]) [(0,0),(1,1)] rfl (by simp) (by kernel_rfl))
   ·repeat'(first|((with_reducible apply qb9);rfl;rfl;rfl)|refine zS ?_|refine zA ?_|fail)
    refine qmT (k:=1) (cs:=qaJ (qfA l.length (qaq s l) 0)) rfl rfl rfl rfl rfl rfl (by decide) rfl ?_
    repeat'(first|refine zA ?_|fail)
    refine qcd (qgs (f:=qaJ) (a:=qfA l.length (qaq s l) 0) qox rfl rfl rfl rfl (by kernel_rfl) (by kernel_rfl)) rfl ?_
    repeat'(first|((with_reducible apply qb9);rfl;rfl;rfl)|refine zS ?_|refine zA ?_|fail)
    refine qmT (k:=1) (cs:=qaJ (qfA l.length (qaK s l) 0)) rfl rfl rfl rfl rfl rfl (by decide) rfl ?_
    repeat'(first|refine zA ?_|fail)
    refine qcd (qgs (f:=qaJ) (a:=qfA l.length (qaK s l) 0) qox rfl rfl rfl rfl (by kernel_rfl) (by kernel_rfl)) rfl ?_
    repeat'(first|((with_reducible apply qb9);rfl;rfl;rfl)|refine zS ?_|refine zA ?_|fail)
    refine⟨hL,trivial,?_⟩
    rw[qqs,qqs]
    exact qaa (nx:=160) (k:=0) (ns:=[]) (ks:=[35,34,1,2,7]) [(0,0),(1,1),(480,2),(832,3)] rfl (by simp) (by kernel_rfl)
  repeat'(first|refine zQ ?_|fail)
  refine qad l.length (fun k=>⟨[(9,.os 4 0 (qcP l 0 k).length),(40,.int .i64 k),(39,.int .i64 l.length),(38,.sl (l.map encCut)),(8,.int .i64 ((0:Nat):Int)),(35,.int .i64 ((0:Nat):Int)),(34,.int .i64 (N:Int)),(1,.sl (l.map encCut)),(2,.op 0 0 0),(7,.op 1 0 0)],[(4,⟨8,true,(qcP l 0 k).map encCut⟩),(0,⟨12,true,[encSite s]⟩),(1,⟨3,false,[[.int .i64 l.length,.nilsl,.nilsl]]⟩)],256,122⟩) (fun k=>True) ?_ trivial ?_
  ·exact qaa (nx:=256) (k:=8) (ns:=[(9,4)]) (ks:=[40,39,38,8,35,34,1,2,7]) [(0,0),(1,1)] rfl (by simp;rfl) (by kernel_rfl)
  ·intro k hk _
   have hsl:=qiI (l:=l) (set:=0) k
   by_cases hK:k<l.length
   ·have hsu:=qlZ (l:=l) (set:=0) hK
    cases hb:qiF 0 k with
    |true=>
     have hm:0/2^k%2=1:=of_decide_eq_true hb
     rw[if_pos hb]at hsu
     repeat'(first|((with_reducible apply qdx);rfl;rfl;rfl;omega)|((with_reducible apply qeD);rfl;rfl;rfl)|refine zS ?_|refine zA ?_|(refine zI ?_;intro hlt)|(refine zC ?_ ?_<;>first|intro h|simp)|fail)
     all_goals try exact absurd hK (by omega)
     all_goals try(exfalso;omega)
     refine qaH (f:=encCut) (a:=l[k]) (l:=qcP l 0 k) qyF rfl rfl rfl rfl rfl rfl (by kernel_rfl) (by kernel_rfl) (by omega) rfl ?_
     repeat'(first|refine zQ ?_|fail)
     refine⟨hK,trivial,?_⟩
     have el:(qcP l 0 k).length+1=(qcP l 0 (k+1)).length:=by rw[hsu];simp
     rw[←hsu,el]
     exact qaa (nx:=256) (k:=8) (ns:=[]) (ks:=[9,40,39,38,8,35,34,1,2,7]) [(4,4),(0,0),(1,1)] rfl (by simp) (by kernel_rfl)
    |false=>
     have hm:¬0/2^k%2=1:=of_decide_eq_false hb
     rw[if_neg (by rw[hb];simp)]at hsu
     rw[hsu]
     repeat'(first|((with_reducible apply qdx);rfl;rfl;rfl;omega)|((with_reducible apply qeD);rfl;rfl;rfl)|refine zS ?_|refine zA ?_|(refine zI ?_;intro hlt)|(refine zC ?_ ?_<;>first|intro h|simp)|fail)
     all_goals try exact absurd hK (by omega)
     all_goals try(exfalso;omega)
     exact⟨hK,trivial,qaa (nx:=256) (k:=8) (ns:=[]) (ks:=[9,40,39,38,8,35,34,1,2,7]) [(4,4),(0,0),(1,1)] rfl (by simp) (by kernel_rfl)⟩
   ·obtain rfl:k=l.length:=by omega
    repeat'(first|refine zQ ?_|(refine zI ?_;intro hlt)|(refine zC ?_ ?_<;>first|intro h|simp)|((with_reducible apply qaz);rfl;rfl)|fail)
    all_goals try exact absurd (show l.length<l.length by omega) hK
    exact(qm3 [4] [(9,.sl ((qcP l 0 l.length).map encCut))] (fun x hx=>by
     simp only[List.mem_singleton]at hx
     subst hx
     exact qfL (m:=63) (k:=8) rfl (by simp))).trans (qaa (nx:=512) (k:=0) (ns:=[]) (ks:=[9,8,35,34,1,2,7]) [(0,0),(1,1)] rfl (by simp) (by kernel_rfl))
 |succ i=>
  dsimp only
  have hi2:(i+1)<N:=hL
  repeat'(first|refine zA ?_|fail)
  all_goals try exact absurd hL (by omega)
  refine qbK ?_
  repeat'(first|(with_reducible apply qbD)|refine zA ?_|fail)
  all_goals try exact absurd hL (by omega)
  refine qbK ?_
  repeat'(first|refine zA ?_|(refine zC ?_ ?_<;>first|intro h|simp)|fail)
  all_goals try exact absurd hL (by omega)
  refine qbK ?_
  repeat'(first|refine zA ?_|fail)
  all_goals try exact absurd hL (by omega)
  refine qbK ?_
  repeat'(first|(with_reducible apply qbD)|refine zA ?_|fail)
  all_goals try exact absurd hL (by omega)
  refine qbK ?_
  repeat'(first|(with_reducible apply qbD)|refine zA ?_|fail)
  all_goals try exact absurd hL (by omega)
  refine Or.inr ⟨⟨[(9,.sl ((qcP l (i+1) l.length).map encCut)),(8,.int .i64 ((i+1:Nat):Int)),(35,.int .i64 ((i+1:Nat):Int)),(34,.int .i64 (N:Int)),(1,.sl (l.map encCut)),(2,.op 0 0 0),(7,.op 1 0 0)],[(0,⟨12,true,[encSite s]⟩),(1,⟨3,false,[[.int .i64 l.length,.os 2 0 (i+1),.os 3 0 (i+1)]]⟩),(2,⟨1,true,(qaX l.length (qaq s l) (i+1)).map qaJ⟩),(3,⟨1,true,(qaX l.length (qaK s l) (i+1)).map qaJ⟩)],512,122⟩,?_,?_⟩
  rotate_left
  ·have hm:∀q (hq:q<(qcP l (i+1) l.length).length),OkCut s (qcP l (i+1) l.length)[q]:=fun q hi=>by
    obtain⟨j,hj,e⟩:=List.getElem_of_mem (qiH l.length _ (List.getElem_mem hi))
    rw[←e];exact hl j hj
   have h2:=qor s hs (qcP l (i+1) l.length) (by have:=qiI (l:=l) (set:=(i+1)) l.length;omega) hm
   rw[qot l.length (Nat.le_refl _)]at h2
   have hbo:=ql0 hs hl (set:=(i+1)) l.length
   have hbl:=hbo.len hs.bed
   change Contract _ _ _ (.ret (.agg (qag (qd3 s l (i+1)))))at h2
   repeat'(first|refine zQ ?_|refine zF h2 ?_|fail)
   refine qfN (len:=l.length) (z:=.int .i64 0) rfl rfl (by kernel_rfl) rfl rfl (by kernel_rfl) (by omega) rfl ?_
   rw[show List.replicate l.length (qai (D.int .i64 0))=(qcm l.length (qaq s l) (i+1) 0).map qal from qiL]
   repeat'(first|refine zA ?_|fail)
   refine qfN (len:=l.length) (z:=.int .i64 0) rfl rfl (by kernel_rfl) rfl rfl (by kernel_rfl) (by omega) rfl ?_
   rw[show List.replicate l.length (qai (D.int .i64 0))=(qcm l.length (qaK s l) (i+1) 0).map qal from qiL]
   repeat'(first|refine zA ?_|fail)
   refine Or.inr ⟨⟨[(13,.sl ((qfA l.length (qaq s l) (i+1)).map qal)),(14,.sl ((qfA l.length (qaK s l) (i+1)).map qal)),(8,.int .i64 ((i+1:Nat):Int)),(35,.int .i64 ((i+1:Nat):Int)),(34,.int .i64 (N:Int)),(1,.sl (l.map encCut)),(2,.op 0 0 0),(7,.op 1 0 0)],[(0,⟨12,true,[encSite s]⟩),(1,⟨3,false,[[.int .i64 l.length,.os 2 0 (i+1),.os 3 0 (i+1)]]⟩),(2,⟨1,true,(qaX l.length (qaq s l) (i+1)).map qaJ⟩),(3,⟨1,true,(qaX l.length (qaK s l) (i+1)).map qaJ⟩)],256,122⟩,?_,?_⟩
   ·repeat'(first|refine zQ ?_|fail)
    refine qad l.length (fun k=>⟨[(66,.int .i64 k),(65,.int .i64 l.length),(64,.sl (l.map encCut)),(13,.os 5 0 l.length),(14,.os 6 0 l.length),(12,.op 4 0 0),(8,.int .i64 ((i+1:Nat):Int)),(35,.int .i64 ((i+1:Nat):Int)),(34,.int .i64 (N:Int)),(1,.sl (l.map encCut)),(2,.op 0 0 0),(7,.op 1 0 0)],[(5,⟨1,true,(qcm l.length (qaq s l) (i+1) k).map qal⟩),(6,⟨1,true,(qcm l.length (qaK s l) (i+1) k).map qal⟩),(4,⟨6,false,[qag (qd3 s l (i+1))]⟩),(0,⟨12,true,[encSite s]⟩),(1,⟨3,false,[[.int .i64 l.length,.os 2 0 (i+1),.os 3 0 (i+1)]]⟩),(2,⟨1,true,(qaX l.length (qaq s l) (i+1)).map qaJ⟩),(3,⟨1,true,(qaX l.length (qaK s l) (i+1)).map qaJ⟩)],256,122⟩) (fun k=>True) ?_ trivial ?_
    ·exact qaa (nx:=256) (k:=0) (ns:=[]) (ks:=[66,65,64,13,14,12,8,35,34,1,2,7]) [(736,5),(832,6),(608,4),(0,0),(1,1),(2,2),(3,3)] rfl (by simp) (by kernel_rfl)
    intro k hk _
    have hpl1:=qgY (n:=l.length) (T:=qaq s l) (set:=(i+1)) (j:=k)
    have hpl2:=qgY (n:=l.length) (T:=qaK s l) (set:=(i+1)) (j:=k)
    by_cases hK:k<l.length
    ·have hps:=qgG (T:=qaq s l) (set:=(i+1)) hK
     have hpp:=qgG (T:=qaK s l) (set:=(i+1)) hK
     cases hb:qiF (i+1) k with
     |true=>
      have hm:(i+1)/2^k%2=1:=of_decide_eq_true hb
      rw[qiN (T:=qaq s l) (set:=(i+1)) hK (by unfold qaq;rw[if_neg (by rw[hb];simp)]),qiN (T:=qaK s l) (set:=(i+1)) hK (by unfold qaK;rw[if_neg (by rw[hb];simp)])]
      repeat'(first|((with_reducible apply qdx);rfl;rfl;rfl;omega)|((with_reducible apply qeD);rfl;rfl;rfl)|refine zS ?_|refine zA ?_|(refine zI ?_;intro hlt)|(refine zC ?_ ?_<;>first|intro h|simp)|fail)
      all_goals try exact absurd hK (by omega)
      all_goals try(exfalso;omega)
      exact⟨hK,trivial,qaa (nx:=256) (k:=0) (ns:=[]) (ks:=[66,65,64,13,14,12,8,35,34,1,2,7]) [(5,5),(6,6),(4,4),(0,0),(1,1),(2,2),(3,3)] rfl (by simp) (by kernel_rfl)⟩
     |false=>
      have hm:(i+1)/2^k%2=0:=by have:=of_decide_eq_false hb;omega
      have er:qaq s l (i+1) k=qAA (qfg s (qd3 s l (i+1)) l[k]):=by unfold qaq qou;rw[if_pos hb,List.getElem?_eq_getElem hK]
      have ep:qaK s l (i+1) k=(qcq s (qd3 s l (i+1)) l[k]).2.1:=by unfold qaK qtD;rw[if_pos hb,List.getElem?_eq_getElem hK]
      have h3:=qiB s hz hs (qd3 s l (i+1)) hbo (by unfold qd3;omega) l[k] (hl k hK)
      have h4:Contract Tryz.prog 123 [.agg (encSite s),.agg (qag (qd3 s l (i+1))),.agg (encCut l[k])] (.ret (.tup [.int .i64 (qcq s (qd3 s l (i+1)) l[k]).1,.int .i64 (qcq s (qd3 s l (i+1)) l[k]).2.1,.bool (qcq s (qd3 s l (i+1)) l[k]).2.2])):=qiz s hs hz (qd3 s l (i+1)) hbo (by unfold qd3;omega) l[k] (hl k hK)
      rw[er]at hps
      rw[ep]at hpp
      generalize qfg s (qd3 s l (i+1)) l[k]=o at*
      generalize qcq s (qd3 s l (i+1)) l[k]=ef at*
      generalize qd3 s l (i+1)=bg at*
      have ho:(o=none)∨∃r c,o=some (r,c):=by cases o with|none=>exact .inl rfl|some v=>exact .inr ⟨v.1,v.2,rfl⟩
      rcases ho with rfl|⟨r,c,rfl⟩
      ·repeat'(first|((with_reducible apply qdx);rfl;rfl;rfl;omega)|((with_reducible apply qeD);rfl;rfl;rfl)|refine zS ?_|refine zA ?_|refine zF h3 ?_|(refine zI ?_;intro hlt)|(refine zC ?_ ?_<;>first|intro h|simp)|fail)
       all_goals try exact absurd hK (by omega)
       all_goals try(exfalso;omega)
       refine qaF (f:=qal) (l:=qcm l.length (qaq s l) (i+1) k) (a:=0) rfl rfl rfl (by omega) rfl rfl rfl rfl (Nat.le_refl _) rfl ?_
       repeat'(first|refine zQ ?_|refine zF h4 ?_|(refine zI ?_;intro hlt)|fail)
       refine qaF (f:=qal) (l:=qcm l.length (qaK s l) (i+1) k) (a:=ef.2.1) rfl rfl rfl (by omega) rfl rfl rfl rfl (Nat.le_refl _) rfl ?_
       repeat'(first|refine zQ ?_|fail)
       refine⟨hK,trivial,?_⟩
       rw[show(qcm l.length (qaq s l) (i+1) k).set k 0=qcm l.length (qaq s l) (i+1) (k+1)from hps,hpp]
       exact qaa (nx:=256) (k:=0) (ns:=[]) (ks:=[66,65,64,13,14,12,8,35,34,1,2,7]) [(5,5),(6,6),(4,4),(0,0),(1,1),(2,2),(3,3)] rfl (by simp) (by kernel_rfl)
      ·repeat'(first|((with_reducible apply qdx);rfl;rfl;rfl;omega)|((with_reducible apply qeD);rfl;rfl;rfl)|refine zS ?_|refine zA ?_|refine zF h3 ?_|(refine zI ?_;intro hlt)|(refine zC ?_ ?_<;>first|intro h|simp)|fail)
       all_goals try exact absurd hK (by omega)
       all_goals try(exfalso;omega)
       refine qaF (f:=qal) (l:=qcm l.length (qaq s l) (i+1) k) (a:=r) rfl rfl rfl (by omega) rfl rfl rfl rfl (Nat.le_refl _) rfl ?_
       repeat'(first|refine zQ ?_|refine zF h4 ?_|(refine zI ?_;intro hlt)|fail)
       refine qaF (f:=qal) (l:=qcm l.length (qaK s l) (i+1) k) (a:=ef.2.1) rfl rfl rfl (by omega) rfl rfl rfl rfl (Nat.le_refl _) rfl ?_
       repeat'(first|refine zQ ?_|fail)
       refine⟨hK,trivial,?_⟩
       rw[show(qcm l.length (qaq s l) (i+1) k).set k r=qcm l.length (qaq s l) (i+1) (k+1)from hps,hpp]
       exact qaa (nx:=256) (k:=0) (ns:=[]) (ks:=[66,65,64,13,14,12,8,35,34,1,2,7]) [(5,5),(6,6),(4,4),(0,0),(1,1),(2,2),(3,3)] rfl (by simp) (by kernel_rfl)
    ·obtain rfl:k=l.length:=by omega
     repeat'(first|refine zQ ?_|(refine zI ?_;intro hlt)|(refine zC ?_ ?_<;>first|intro h|simp)|((with_reducible apply qaz);rfl;rfl)|fail)
     all_goals try exact absurd (show l.length<l.length by omega) hK
     rw[qiM,qiM]
     exact(qm3 [5,6] [(13,.sl ((qfA l.length (qaq s l) (i+1)).map qal)),(14,.sl ((qfA l.length (qaK s l) (i+1)).map qal))] (fun x hx=>by
      simp only[List.mem_cons,List.not_mem_nil,or_false]at hx
      rcases hx with rfl|rfl
      ·exact qfL (m:=63) (k:=1) rfl (by simp[qfA])
      ·exact qfL (m:=63) (k:=1) rfl (by simp[qfA]))).trans (qaa (nx:=256) (k:=0) (ns:=[]) (ks:=[13,14,8,35,34,1,2,7]) [(0,0),(1,1),(2,2),(3,3)] rfl (by simp) (by kernel_rfl))
   ·repeat'(first|((with_reducible apply qb9);rfl;rfl;rfl)|refine zS ?_|refine zA ?_|fail)
    refine qmT (k:=1) (cs:=qaJ (qfA l.length (qaq s l) (i+1))) rfl rfl rfl rfl rfl rfl (by decide) rfl ?_
    repeat'(first|refine zA ?_|fail)
    refine qhy (f:=qaJ) (a:=qfA l.length (qaq s l) (i+1)) (l:=qaX l.length (qaq s l) (i+1)) qox rfl rfl rfl (by simp[qaX]) rfl rfl (by kernel_rfl) (by kernel_rfl) (by omega) rfl ?_
    repeat'(first|((with_reducible apply qb9);rfl;rfl;rfl)|refine zS ?_|refine zA ?_|fail)
    refine qmT (k:=1) (cs:=qaJ (qfA l.length (qaK s l) (i+1))) rfl rfl rfl rfl rfl rfl (by decide) rfl ?_
    repeat'(first|refine zA ?_|fail)
    refine qhy (f:=qaJ) (a:=qfA l.length (qaK s l) (i+1)) (l:=qaX l.length (qaK s l) (i+1)) qox rfl rfl rfl (by simp[qaX]) rfl rfl (by kernel_rfl) (by kernel_rfl) (by omega) rfl ?_
    repeat'(first|((with_reducible apply qb9);rfl;rfl;rfl)|refine zS ?_|refine zA ?_|fail)
    refine⟨hL,trivial,?_⟩
    rw[←qnp,←qnp]
    exact qaa (nx:=160) (k:=0) (ns:=[]) (ks:=[35,34,1,2,7]) [(0,0),(1,1),(2,2),(3,3)] rfl (by simp) (by kernel_rfl)
  repeat'(first|refine zQ ?_|fail)
  refine qad l.length (fun k=>⟨[(9,.os 4 0 (qcP l (i+1) k).length),(40,.int .i64 k),(39,.int .i64 l.length),(38,.sl (l.map encCut)),(8,.int .i64 ((i+1:Nat):Int)),(35,.int .i64 ((i+1:Nat):Int)),(34,.int .i64 (N:Int)),(1,.sl (l.map encCut)),(2,.op 0 0 0),(7,.op 1 0 0)],[(4,⟨8,true,(qcP l (i+1) k).map encCut⟩),(0,⟨12,true,[encSite s]⟩),(1,⟨3,false,[[.int .i64 l.length,.os 2 0 (i+1),.os 3 0 (i+1)]]⟩),(2,⟨1,true,(qaX l.length (qaq s l) (i+1)).map qaJ⟩),(3,⟨1,true,(qaX l.length (qaK s l) (i+1)).map qaJ⟩)],256,122⟩) (fun k=>True) ?_ trivial ?_
  ·exact qaa (nx:=256) (k:=8) (ns:=[(9,4)]) (ks:=[40,39,38,8,35,34,1,2,7]) [(0,0),(1,1),(2,2),(3,3)] rfl (by simp;rfl) (by kernel_rfl)
  ·intro k hk _
   have hsl:=qiI (l:=l) (set:=(i+1)) k
   by_cases hK:k<l.length
   ·have hsu:=qlZ (l:=l) (set:=(i+1)) hK
    cases hb:qiF (i+1) k with
    |true=>
     have hm:(i+1)/2^k%2=1:=of_decide_eq_true hb
     rw[if_pos hb]at hsu
     repeat'(first|((with_reducible apply qdx);rfl;rfl;rfl;omega)|((with_reducible apply qeD);rfl;rfl;rfl)|refine zS ?_|refine zA ?_|(refine zI ?_;intro hlt)|(refine zC ?_ ?_<;>first|intro h|simp)|fail)
     all_goals try exact absurd hK (by omega)
     all_goals try(exfalso;omega)
     refine qaH (f:=encCut) (a:=l[k]) (l:=qcP l (i+1) k) qyF rfl rfl rfl rfl rfl rfl (by kernel_rfl) (by kernel_rfl) (by omega) rfl ?_
     repeat'(first|refine zQ ?_|fail)
     refine⟨hK,trivial,?_⟩
     have el:(qcP l (i+1) k).length+1=(qcP l (i+1) (k+1)).length:=by rw[hsu];simp
     rw[←hsu,el]
     exact qaa (nx:=256) (k:=8) (ns:=[]) (ks:=[9,40,39,38,8,35,34,1,2,7]) [(4,4),(0,0),(1,1),(2,2),(3,3)] rfl (by simp) (by kernel_rfl)
    |false=>
     have hm:¬(i+1)/2^k%2=1:=of_decide_eq_false hb
     rw[if_neg (by rw[hb];simp)]at hsu
     rw[hsu]
     repeat'(first|((with_reducible apply qdx);rfl;rfl;rfl;omega)|((with_reducible apply qeD);rfl;rfl;rfl)|refine zS ?_|refine zA ?_|(refine zI ?_;intro hlt)|(refine zC ?_ ?_<;>first|intro h|simp)|fail)
     all_goals try exact absurd hK (by omega)
     all_goals try(exfalso;omega)
     exact⟨hK,trivial,qaa (nx:=256) (k:=8) (ns:=[]) (ks:=[9,40,39,38,8,35,34,1,2,7]) [(4,4),(0,0),(1,1),(2,2),(3,3)] rfl (by simp) (by kernel_rfl)⟩
   ·obtain rfl:k=l.length:=by omega
    repeat'(first|refine zQ ?_|(refine zI ?_;intro hlt)|(refine zC ?_ ?_<;>first|intro h|simp)|((with_reducible apply qaz);rfl;rfl)|fail)
    all_goals try exact absurd (show l.length<l.length by omega) hK
    exact(qm3 [4] [(9,.sl ((qcP l (i+1) l.length).map encCut))] (fun x hx=>by
     simp only[List.mem_singleton]at hx
     subst hx
     exact qfL (m:=63) (k:=8) rfl (by simp))).trans (qaa (nx:=512) (k:=0) (ns:=[]) (ks:=[9,8,35,34,1,2,7]) [(0,0),(1,1),(2,2),(3,3)] rfl (by simp) (by kernel_rfl))
theorem ql6(s:Site)(hz:Sized s)(hd:s.dreds.length<1000000000000)(l:List Cut)(hl:l.length≤9223372036854775807)(h0:qcy s l≠0):
  Contract Tryz.prog 114 [.agg (encSite s),.sl (l.map encCut)] (.ret (.tup [.nilptr,.int .i64 (qcy s l)])):=by
 have h1:=qdK s hz l hl hd
 generalize qcy s l=q at*
 refine zT mix Tryz.func114 Tryz.ntmps114 Tryz.results114 rfl rfl rfl ?_;simp only[qab,Nat.reduceAdd]
 repeat'(first|((with_reducible apply qce);rfl;rfl;rfl;omega)|((with_reducible apply qdF);rfl;rfl)|refine zS ?_|refine zA ?_|refine zF h1 ?_|(refine zC ?_ ?_<;>first|intro h|simp)|fail)
 all_goals first
  |exact qcF rfl rfl rfl rfl
  |(exfalso;omega)
  |trace_state
theorem ql7(s:Site)(hz:Sized s)(hd:s.dreds.length<1000000000000)(l:List Cut)(hl:l.length≤9223372036854775807)(h0:qcy s l=0)(h8:8<l.length):
  Contract Tryz.prog 114 [.agg (encSite s),.sl (l.map encCut)] (.ret (.tup [.nilptr,.int .i64 8])):=by
 have h1:=qdK s hz l hl hd
 rw[h0]at h1
 refine zT mix Tryz.func114 Tryz.ntmps114 Tryz.results114 rfl rfl rfl ?_;simp only[qab,Nat.reduceAdd]
 repeat'(first|((with_reducible apply qdF);rfl;rfl)|refine zS ?_|refine zA ?_|refine zF h1 ?_|(refine zC ?_ ?_<;>first|intro h|simp)|((with_reducible apply qaz);rfl;rfl)|fail)
 all_goals first
  |exact qcF rfl rfl rfl rfl
  |(exfalso;omega)
  |trace_state
open Go.Pv.Ord
theorem qqt{P:Program}{K:X→St→Prop}{env:Env}{hp:Hp}{nx n id:Nat}{s:Tmp}{α:Type}{f:α→List D}{k:Nat}{l:List α}{d2 d3:D}{args:List Operand}{ts:Array TypeId}{g:FuncId}{args':List D}(hp':qbX (lkH hp) 64 (args.map (qac env))=some args')(hc:Contract P g args' (.ret (.tup [.fr k (l.map f),d2,d3])))(hf:qfm f k)(h2:qa0 d2=true)(h3:qa0 d3=true)(hd:qak n (some s)=true)
  (h:K .normal ⟨(s,.tup [.os id 0 l.length,d2,d3])::env,(id,⟨k,true,l.map f⟩)::hp,nx,n⟩):qap P (.call {callee:=.value (.func g),args:=args.toArray,argTypes:=ts}) id (some s) ⟨env,hp,nx,n⟩ K:=by
 have hw:qdv d2=1:=by cases d2<;>first|(cases h2;done)|rfl
 have hr2:qj0 d2=true:=qdC (by cases d2<;>first|(cases h2;done)|rfl)
 have ha2:∀m,adE m d2=(d2,[]):=fun m=>qgp (by cases d2<;>first|(cases h2;done)|rfl)
 have hw3:qdv d3=1:=by cases d3<;>first|(cases h3;done)|rfl
 have hr3:qj0 d3=true:=qdC (by cases d3<;>first|(cases h3;done)|rfl)
 have ha3:∀m,adE m d3=(d3,[]):=fun m=>qgp (by cases d3<;>first|(cases h3;done)|rfl)
 refine qbt hp' hc ?_ (by simp[qqB,hw,hw3];simp[qdv]) hd ?_
 ·have:qbY (.tup [.fr k (l.map f),d2,d3])=true:=by
   simp only[qbY,List.all_cons,List.all_nil,Bool.and_true,hr2,hr3]
   exact qia hf l
  rw[this,Bool.or_true]
 ·have e:qaO id (.tup [.fr k (l.map f),d2,d3])=(.tup [.os id 0 l.length,d2,d3],[(id,⟨k,true,l.map f⟩)]):=by
   simp only[qaO,adT,ha2,ha3]
   simp[adE,adC,qdS hf]
  rw[e]
  exact h
theorem qFC{P:Program}{g:FuncId}{ds:List D}{k:Nat}{rows:List (List D)}{ik:IntKind}{q:Int}{b:Bool}(hf:qan rows=true)(hc:Contract P g ds (.ret (.tup [.fr k rows,.int ik q,.bool b]))):Contract P g ds (.ret (.tup [.sl rows,.int ik q,.bool b])):=
 qdE (by simp[qaO,adT,adE,adC,qdv,pur,qbX,lkH,hf]) (fun m=>by simp[qaO,adT,adE,adC]) hc
theorem qFD(set k:Int):Contract Tryz.prog 127 [.int .i64 set,.int .i64 k] (.ret (.int .i64 0)):=by
 refine zT mix Tryz.func127 Tryz.ntmps127 Tryz.results127 rfl rfl rfl ?_;simp only[qab,Nat.reduceAdd]
 repeat'(first|(with_reducible rfl)|refine zQ ?_|refine zE ?_|fail)
theorem qAJ(n:Nat)(rl pl:List (List Int))(r:List Int)(v:Int)(set k:Nat)(hset:set≤1000)(hr:pl[set]? =some r)(hk:k≤1000)(hv:r[k]? =some v):Contract Tryz.prog 116 [.int .i64 set,.int .i64 k,.ptr [qeS n rl pl]] (.ret (.int .i64 v)):=by
 have hs':set<pl.length:=by
  rcases Nat.lt_or_ge set pl.length with h|h
  ·exact h
  ·rw[List.getElem?_eq_none h]at hr;cases hr
 have hg1:pl[set]'hs'=r:=by rw[List.getElem?_eq_getElem hs']at hr;exact Option.some.inj hr
 have hk3:k<(pl[set]'hs').length:=by
  rw[hg1]
  rcases Nat.lt_or_ge k r.length with h|h
  ·exact h
  ·rw[List.getElem?_eq_none h]at hv;cases hv
 have hg2:(pl[set]'hs')[k]'hk3=v:=by
  rw[List.getElem?_eq_getElem (by rw[←hg1];exact hk3)]at hv
  simp only[hg1]
  exact Option.some.inj hv
 unfold qeS
 refine zT mix Tryz.func116 Tryz.ntmps116 Tryz.results116 rfl rfl rfl ?_;simp only[qab,Nat.reduceAdd]
 repeat'(first|((with_reducible apply qao);rfl;rfl)|refine zS ?_|refine zA ?_|(refine zI ?_;intro hlt)|refine zE ?_|fail)
 all_goals first
  |exact hg2
  |trace_state
theorem qfy{p:Nat→Bool}{r:Int}{l:List Nat}{v:Int×Int}(h:findR p r l=some v):v.1=r:=by
 unfold findR at h
 obtain⟨i,_,rfl⟩:=Option.map_eq_some_iff.1 h
 rfl
theorem qvn{e:Nat→Int}{l:List Nat}{v:Int×Int}(h:qeR e l=some v):v.1≠0:=by
 unfold qeR at h
 obtain⟨i,hi,rfl⟩:=Option.map_eq_some_iff.1 h
 have:=List.find?_some hi
 simpa using this
theorem qbA{α:Type}{a b:Option α}{v:α}(h:a.or b=some v):a=some v∨b=some v:=by
 cases a with
 |none=>exact .inr (by simpa using h)
 |some x=>exact .inl (by simpa using h)
theorem qyG{s:Site}{b:Grid}{c:Cut}{v:Int×Int}(h:qfg s b c=some v):v.1≠0:=by
 unfold qfg qed qeL qgB at h
 rcases qbA h with h|h
 ·rcases qbA h with h|h
  ·split at h
   ·cases h
   ·injection h with h;subst h;exact by simp
  rcases qbA h with h|h
  ·rw[qfy h];decide
  rcases qbA h with h|h
  ·rw[qfy h];decide
  rcases qbA h with h|h
  ·rw[qfy h];decide
  rcases qbA h with h|h
  ·rw[qfy h];decide
  ·split at h
   ·cases h
   ·injection h with h;subst h;exact by simp
 ·rcases qbA h with h|h
  ·exact qvn h
  rcases qbA h with h|h
  ·rw[qfy h];decide
  ·obtain⟨x,_,rfl⟩:=Option.map_eq_some_iff.1 h
   simp
theorem qyH{s:Site}(hs:OkSite s)(h100:s.bed.levels.length≤100){l:List Cut}(hl:∀i (hi:i<l.length),OkCut s l[i])(set k:Nat)(hk:k<l.length)(hx:nx (qaq s l) set k=true):0≤qaK s l set k∧qaK s l set k≤1000000000000000:=by
 have hb:qiF set k=false:=by rw[qju];exact nx_bit hx
 have hok:=ql0 hs hl (set:=set) l.length
 have hlen:=hok.len hs.bed
 simp only[nx,Bool.and_eq_true,decide_eq_true_eq]at hx
 have h1:=hx.2
 unfold qaq qou at h1
 rw[if_pos hb,List.getElem?_eq_getElem hk]at h1
 simp only at h1
 have h2:qfg s (qd3 s l set) l[k]=none:=by
  cases hr:qfg s (qd3 s l set) l[k]with
  |none=>rfl
  |some v=>
   rw[hr]at h1
   exact absurd h1 (qyG hr)
 have h3:=qG8 hs hok (by omega) (hl k hk) h2
 unfold qaK qtD
 rw[if_pos hb,List.getElem?_eq_getElem hk]
 simp only
 unfold qd3
 omega
theorem qDI(s:Site)(l:List Cut)(hl8:l.length≤8):Contract Tryz.prog 115 [qeS l.length (qaX l.length (qaq s l) (2^l.length)) (qaX l.length (qaK s l) (2^l.length)),.clo (.func 127) [] []] (.ret (.tup [.fr 1 ((qf8 l.length (qaq s l) (fun _ _=>0)).1.map qcx),.int .i64 (qf8 l.length (qaq s l) (fun _ _=>0)).2.1,.bool (qf8 l.length (qaq s l) (fun _ _=>0)).2.2])):=
 qBS l.length hl8 (qaq s l) (fun _ _=>0) _ 127 [] (fun _ _=>rfl) rfl (fun set k _ _=>qFD set k) (fun s k _ _=>⟨by decide,by decide⟩)
theorem qDJ(s:Site)(hs:OkSite s)(h100:s.bed.levels.length≤100)(l:List Cut)(hl:∀i (hi:i<l.length),OkCut s l[i])(hl8:l.length≤8):Contract Tryz.prog 115 [qeS l.length (qaX l.length (qaq s l) (2^l.length)) (qaX l.length (qaK s l) (2^l.length)),.clo (.func 116) [] [.ptr [qeS l.length (qaX l.length (qaq s l) (2^l.length)) (qaX l.length (qaK s l) (2^l.length))]]] (.ret (.tup [.sl ((qf8 l.length (qaq s l) (qaK s l)).1.map qcx),.int .i64 (qf8 l.length (qaq s l) (qaK s l)).2.1,.bool (qf8 l.length (qaq s l) (qaK s l)).2.2])):=
 qFC (qdS qlD _)<|qBS l.length hl8 (qaq s l) (qaK s l) _ 116 _ (fun _ _=>rfl) rfl (fun set k hs hk=>qAJ _ _ _ (qfA l.length (qaK s l) set) (qaK s l set k) set k (by have:=qy6 hl8;omega) (by rw[List.getElem?_eq_getElem (by rw[qfx];exact hs),qiJ]) (by omega) (by rw[List.getElem?_eq_getElem (by rw[qe2];exact hk),qku])) (fun set k hk hx=>qyH hs h100 hl set k hk hx)
noncomputable def qtM(s:Site)(l:List Cut):List Nat×Int×Int:=
 if qcy s l≠0 then([],0,qcy s l)else if 8<l.length then([],0,8)else match planO l.length (qaq s l) (qaK s l) l.length 0 with
  |none=>([],0,11)
  |some c=>(qbn l.length (qaq s l) (qaK s l) l.length 0,c,0)
theorem qEc(s:Site)(hz:Sized s)(hd:s.dreds.length<1000000000000)(h100:s.bed.levels.length≤100)(l:List Cut)(hl:l.length≤9223372036854775807):Contract Tryz.prog 33 [.agg (encSite s),.sl (l.map encCut)] (.ret (.tup [.sl ((qtM s l).1.map qcx),.int .i64 (qtM s l).2.1,.int .i64 (qtM s l).2.2])):=by
 unfold qtM
 by_cases h0:qcy s l=0
 rotate_left
 ·have h1:=ql6 s hz hd l hl h0
  rw[if_pos h0]
  generalize qcy s l=q at*
  refine zT mix Tryz.func33 Tryz.ntmps33 Tryz.results33 rfl rfl rfl ?_;simp only[qab,Nat.reduceAdd]
  repeat'(first|refine zQ ?_|refine zF h1 ?_|(refine zC ?_ ?_<;>first|intro h|simp)|fail)
  all_goals first
   |exact qtL rfl rfl rfl rfl rfl rfl
   |(exfalso;omega)
   |trace_state
 rw[if_neg (not_not_intro h0)]
 by_cases h8:8<l.length
 ·have h1:=ql7 s hz hd l hl h0 h8
  rw[if_pos h8]
  refine zT mix Tryz.func33 Tryz.ntmps33 Tryz.results33 rfl rfl rfl ?_;simp only[qab,Nat.reduceAdd]
  repeat'(first|refine zQ ?_|refine zF h1 ?_|fail)
  all_goals first
   |exact qtL rfl rfl rfl rfl rfl rfl
   |(exfalso;omega)
   |trace_state
 rw[if_neg h8]
 obtain⟨hll,hlc⟩:=qd7 h0
 have hs:=(qcw h0).1
 have h1:=qoA s hz hs h100 l h0 (by omega)
 have h2:=qDJ s hs h100 l hlc (by omega)
 unfold qf8 at h2
 unfold qeS at*
 generalize qaX l.length (qaq s l) (2^l.length)=rl at*
 generalize qaX l.length (qaK s l) (2^l.length)=pl at*
 cases hp:planO l.length (qaq s l) (qaK s l) l.length 0 with
 |none=>
  rw[hp]at h2
  refine zT mix Tryz.func33 Tryz.ntmps33 Tryz.results33 rfl rfl rfl ?_;simp only[qab,Nat.reduceAdd]
  repeat'(first|refine zA ?_|fail)
  all_goals try(exfalso;omega)
  refine qbK ?_
  repeat'(first|(with_reducible apply qbD)|refine zA ?_|fail)
  all_goals try(exfalso;omega)
  refine qbK ?_
  repeat'(first|(with_reducible apply qbD)|refine zA ?_|refine zF h1 ?_|fail)
  all_goals try(exfalso;omega)
  refine qbK ?_
  repeat'(first|refine zA ?_|fail)
  all_goals try(exfalso;omega)
  refine qbK ?_
  repeat'(first|(with_reducible apply qbD)|refine zA ?_|fail)
  all_goals try(exfalso;omega)
  refine qbK ?_
  refine Or.inr (Or.inr ?_)
  refine qss ?_
  repeat'(first|refine zA ?_|fail)
  refine qkd ?_
  refine qss ?_
  repeat'(first|refine zA ?_|fail)
  refine qkd ?_
  refine qst _ (qm3 [320] [(23,.clo (.func 116) [] [.ptr [.ptr [.int .i64 l.length,.sl (rl.map qaJ),.sl (pl.map qaJ)]]])] ?_) ?_
  ·intro x hx
   simp only[List.mem_singleton]at hx
   subst hx
   rfl
  repeat'(first|refine zQ ?_|refine zF h2 ?_|fail)
  all_goals first
   |exact qtL rfl rfl rfl rfl rfl rfl
   |(exfalso;omega)
   |trace_state
 |some c=>
  rw[hp]at h2
  refine zT mix Tryz.func33 Tryz.ntmps33 Tryz.results33 rfl rfl rfl ?_;simp only[qab,Nat.reduceAdd]
  repeat'(first|refine zA ?_|fail)
  all_goals try(exfalso;omega)
  refine qbK ?_
  repeat'(first|(with_reducible apply qbD)|refine zA ?_|fail)
  all_goals try(exfalso;omega)
  refine qbK ?_
  repeat'(first|(with_reducible apply qbD)|refine zA ?_|refine zF h1 ?_|fail)
  all_goals try(exfalso;omega)
  refine qbK ?_
  repeat'(first|refine zA ?_|fail)
  all_goals try(exfalso;omega)
  refine qbK ?_
  repeat'(first|(with_reducible apply qbD)|refine zA ?_|fail)
  all_goals try(exfalso;omega)
  refine qbK ?_
  refine Or.inr (Or.inr ?_)
  refine qss ?_
  repeat'(first|refine zA ?_|fail)
  refine qkd ?_
  refine qss ?_
  repeat'(first|refine zA ?_|fail)
  refine qkd ?_
  refine qst _ (qm3 [320] [(23,.clo (.func 116) [] [.ptr [.ptr [.int .i64 l.length,.sl (rl.map qaJ),.sl (pl.map qaJ)]]])] ?_) ?_
  ·intro x hx
   simp only[List.mem_singleton]at hx
   subst hx
   rfl
  repeat'(first|refine zQ ?_|refine zF h2 ?_|fail)
  all_goals first
   |exact qtL rfl rfl rfl rfl rfl rfl
   |(exfalso;omega)
   |trace_state
theorem qAK(l:List Int)(h0:0<l.length)(hl:l.length≤1000000000):Contract Tryz.prog 129 [.sl (l.map qal)] (.ret (.fr 1 (l.map qal))):=by
 refine zT mix Tryz.func129 Tryz.ntmps129 Tryz.results129 rfl rfl rfl ?_;simp only[qab,Nat.reduceAdd]
 repeat'(first|refine zQ ?_|fail)
 refine qk8 (f:=qal) rfl h0 rfl ?_
 repeat'(first|refine zQ ?_|fail)
 refine qk7 (f:=qal) qbL rfl rfl rfl (fun _=>rfl) (by kernel_rfl) (by kernel_rfl) hl rfl ?_
 repeat'(first|refine zA ?_|fail)
 exact qhu rfl rfl rfl rfl
theorem qDK{P:Program}{env:Env}{hp:Hp}{nx n:Nat}{rv rv2 rv3:ResultVar}{b k len k2:Nat}{rows:List (List D)}{d3:D}(h:qb7 P ⟨env,hp,nx,n⟩ rv=some (.os b 0 len))(hb:lkH hp b=some ⟨k,true,rows⟩)(hlen:rows.length=len)(h2:qb7 P ⟨env,hp,nx,n⟩ rv2=some .nilsl)(h3:qb7 P ⟨env,hp,nx,n⟩ rv3=some d3)(s3:qa0 d3=true):qg3 P [rv,rv2,rv3] (.ret (.tup [.fr k rows,.fr k2 [],d3])) .ret ⟨env,hp,nx,n⟩:=by
 subst hlen
 exact⟨_,rfl,.inl ⟨[.blk b,.nil,.pure],[.os b 0 rows.length,.nilsl,d3],[.fr k rows,.fr k2 [],d3],by simp[h,h2,h3],by simp[qbC],⟨⟨⟨k,true,rows⟩,rows,rfl,hb,rfl,by simp⟩,⟨rfl,k2,rfl⟩,qdl (m:=63) s3,trivial⟩,rfl,fun h=>by simp at h⟩⟩
theorem qDL{P:Program}{env:Env}{hp:Hp}{nx n:Nat}{rv rv2 rv3:ResultVar}{k b2 k2 len2:Nat}{rows2:List (List D)}{d3:D}(h:qb7 P ⟨env,hp,nx,n⟩ rv=some .nilsl)(h2:qb7 P ⟨env,hp,nx,n⟩ rv2=some (.os b2 0 len2))(hb2:lkH hp b2=some ⟨k2,true,rows2⟩)(hlen2:rows2.length=len2)(h3:qb7 P ⟨env,hp,nx,n⟩ rv3=some d3)(s3:qa0 d3=true):qg3 P [rv,rv2,rv3] (.ret (.tup [.fr k [],.fr k2 rows2,d3])) .ret ⟨env,hp,nx,n⟩:=by
 subst hlen2
 exact⟨_,rfl,.inl ⟨[.nil,.blk b2,.pure],[.nilsl,.os b2 0 rows2.length,d3],[.fr k [],.fr k2 rows2,d3],by simp[h,h2,h3],by simp[qbC],⟨⟨rfl,k,rfl⟩,⟨⟨k2,true,rows2⟩,rows2,rfl,hb2,rfl,by simp⟩,qdl (m:=63) s3,trivial⟩,rfl,fun h=>by simp at h⟩⟩
theorem qyI{P:Program}{env:Env}{hp:Hp}{nx n:Nat}{rv rv2 rv3:ResultVar}{k k2:Nat}{d3:D}(h:qb7 P ⟨env,hp,nx,n⟩ rv=some .nilsl)(h2:qb7 P ⟨env,hp,nx,n⟩ rv2=some .nilsl)(h3:qb7 P ⟨env,hp,nx,n⟩ rv3=some d3)(s3:qa0 d3=true):qg3 P [rv,rv2,rv3] (.ret (.tup [.fr k [],.fr k2 [],d3])) .ret ⟨env,hp,nx,n⟩:=
 ⟨_,rfl,.inl ⟨[.nil,.nil,.pure],[.nilsl,.nilsl,d3],[.fr k [],.fr k2 [],d3],by simp[h,h2,h3],by simp[qbC],⟨⟨rfl,k,rfl⟩,⟨rfl,k2,rfl⟩,qdl (m:=63) s3,trivial⟩,rfl,fun h=>by simp at h⟩⟩
theorem qFE{P:Program}{g:FuncId}{ds:List D}{k k2:Nat}{rows rows2:List (List D)}{ik:IntKind}{q:Int}(hf:qan rows=true)(hf2:qan rows2=true)(hc:Contract P g ds (.ret (.tup [.fr k rows,.fr k2 rows2,.int ik q]))):Contract P g ds (.ret (.tup [.sl rows,.sl rows2,.int ik q])):=
 qdE (by simp[qaO,adT,adE,adC,qdv,pur,qbX,lkH,hf,hf2]) (fun m=>by simp[qaO,adT,adE,adC]) hc
def qBT(b:Bool):List D:=[.bool b]
def qhL(x:Nat×List Int):List D:=[.int .i64 x.1,.sl (x.2.map qal)]
theorem qBU:qjg qhL 2:=fun _=>⟨rfl,rfl,rfl⟩
def qAL(n:Nat)(R:Nat→Nat→Int)(m:Nat):List Nat:=(List.range m).filter fun t=>(ql4 n R t).getD t false
def qdg(n:Nat)(R:Nat→Nat→Int)(m:Nat):List (Nat×List Int):=(qAL n R m).map fun t=>(t,qfA n R t)
theorem qyJ{n:Nat}{R:Nat→Nat→Int}{m:Nat}(h:(ql4 n R m).getD m false=true):qdg n R (m+1)=qdg n R m++[(m,qfA n R m)]:=by
 simp only[qdg,qAL,List.range_succ,List.filter_append,List.filter_cons,List.filter_nil,h,if_true,List.map_append,List.map_cons,List.map_nil]
theorem qAM{n:Nat}{R:Nat→Nat→Int}{m:Nat}(h:(ql4 n R m).getD m false=false):qdg n R (m+1)=qdg n R m:=by
 simp only[qdg,qAL,List.range_succ,List.filter_append,List.filter_cons,List.filter_nil,h,Bool.false_eq_true,if_false,List.append_nil]
theorem qyK{n:Nat}{R:Nat→Nat→Int}{m:Nat}:(qdg n R m).length≤m:=by
 unfold qdg qAL
 rw[List.length_map]
 exact Nat.le_trans (List.length_filter_le _ _) (by simp)
noncomputable def qvo(s:Site)(l:List Cut):List Nat×List (Nat×List Int)×Int:=
 if qcy s l≠0 then([],[],qcy s l)else if 8<l.length then([],[],8)else match planO l.length (qaq s l) (fun _ _=>0) l.length 0 with
  |none=>([],qdg l.length (qaq s l) (2^l.length),11)
  |some _=>(qbn l.length (qaq s l) (fun _ _=>0) l.length 0,[],0)
theorem qjv(s:Site)(hz:Sized s)(hd:s.dreds.length<1000000000000)(h100:s.bed.levels.length≤100)(l:List Cut)(hl:l.length≤9223372036854775807):Contract Tryz.prog 53 [.agg (encSite s),.sl (l.map encCut)] (.ret (.tup [.fr 1 ((qvo s l).1.map qcx),.fr 2 ((qvo s l).2.1.map qhL),.int .i64 (qvo s l).2.2])):=by
 unfold qvo
 by_cases h0:qcy s l=0
 rotate_left
 ·have h1:=ql6 s hz hd l hl h0
  rw[if_pos h0]
  generalize qcy s l=q at*
  refine zT mix Tryz.func53 Tryz.ntmps53 Tryz.results53 rfl rfl rfl ?_;simp only[qab,Nat.reduceAdd]
  repeat'(first|((with_reducible apply qdF);rfl;rfl)|refine zS ?_|refine zA ?_|refine zF h1 ?_|(refine zC ?_ ?_<;>first|intro h|simp)|fail)
  all_goals first
   |exact qyI rfl rfl rfl rfl
   |(exfalso;omega)
   |trace_state
 rw[if_neg (not_not_intro h0)]
 by_cases h8:8<l.length
 ·have h1:=ql7 s hz hd l hl h0 h8
  rw[if_pos h8]
  refine zT mix Tryz.func53 Tryz.ntmps53 Tryz.results53 rfl rfl rfl ?_;simp only[qab,Nat.reduceAdd]
  repeat'(first|((with_reducible apply qdF);rfl;rfl)|refine zS ?_|refine zA ?_|refine zF h1 ?_|fail)
  all_goals first
   |exact qyI rfl rfl rfl rfl
   |(exfalso;omega)
   |trace_state
 rw[if_neg h8]
 obtain⟨hll,hlc⟩:=qd7 h0
 have hs:=(qcw h0).1
 have h1:=qoA s hz hs h100 l h0 (by omega)
 have h2:=qDI s l (by omega)
 have h3:=qAH l.length (by omega) (qaX l.length (qaq s l) (2^l.length)) (qaX l.length (qaK s l) (2^l.length))
 have h4:=fun(set k:Nat) hs hk=>qtK l.length (by omega) (qaq s l) (qaX l.length (qaK s l) (2^l.length)) set k hs hk
 have hp8:=qy6 (show l.length≤8 by omega)
 have hrl:(qaX l.length (qaq s l) (2^l.length)).length=2^l.length:=qfx
 have hrg:∀t (ht:t<(qaX l.length (qaq s l) (2^l.length)).length),(qaX l.length (qaq s l) (2^l.length))[t]=qfA l.length (qaq s l) t:=fun t ht=>qiJ ht
 unfold qf8 at h2
 unfold qeS at*
 generalize qaX l.length (qaq s l) (2^l.length)=rl at*
 generalize qaX l.length (qaK s l) (2^l.length)=pl at*
 cases hp:planO l.length (qaq s l) (fun _ _=>0) l.length 0 with
 |some c=>
  rw[hp]at h2
  refine zT mix Tryz.func53 Tryz.ntmps53 Tryz.results53 rfl rfl rfl ?_;simp only[qab,Nat.reduceAdd]
  repeat'(first|refine zQ ?_|refine zF h1 ?_|fail)
  all_goals try(exfalso;omega)
  refine qqt (f:=qcx) rfl h2 qlD rfl rfl rfl ?_
  repeat'(first|refine zQ ?_|fail)
  all_goals first
   |exact qDK rfl rfl (by simp) rfl rfl rfl
   |(exfalso;omega)
   |trace_state
 |none=>
  rw[hp]at h2
  obtain⟨N,hN⟩:∃N,N=2^l.length:=⟨_,rfl⟩
  simp only[←hN]at h3 h4 hp8 hrl ⊢
  dsimp only at h2
  have hn0:0<l.length:=by
   rcases Nat.eq_zero_or_pos l.length with e|e
   ·rw[e]at hp;simp[planO]at hp
   ·exact e
  have hal:∀i,(ql4 l.length (qaq s l) i).length=N:=fun i=>by rw[hN];exact qow i
  refine zT mix Tryz.func53 Tryz.ntmps53 Tryz.results53 rfl rfl rfl ?_;simp only[qab,Nat.reduceAdd]
  repeat'(first|refine zQ ?_|refine zF h1 ?_|fail)
  all_goals try(exfalso;omega)
  refine qqt (f:=qcx) (l:=[]) rfl h2 qlD rfl rfl rfl ?_
  repeat'(first|refine zQ ?_|refine zF h3 ?_|fail)
  have eN:D.int .i64 ((N:Int)-1+1)=D.int .i64 (N:Int):=by rw[Int.sub_add_cancel]
  refine qfN (len:=N) (z:=.bool false) eN eN (by kernel_rfl) rfl rfl (by kernel_rfl) (by omega) rfl ?_
  rw[show List.replicate N (qai (D.bool false))=(List.replicate N false).map qBT by simp[qBT,qai]]
  repeat'(first|refine zQ ?_|fail)
  refine qhs (i:=0) rfl rfl rfl rfl rfl rfl ⟨by omega,by simp⟩ fun hlt=>?_
  repeat'(first|refine zA ?_|fail)
  refine qaF (f:=qBT) (l:=List.replicate N false) (a:=true) rfl rfl rfl (by simp;omega) rfl rfl rfl rfl (Nat.le_refl _) rfl ?_
  rw[show((List.replicate N false).set 0 true).map qBT=(ql4 l.length (qaq s l) 0).map qBT by rw[hN];rfl]
  repeat'(first|refine zQ ?_|fail)
  refine qad N (fun i=>⟨[(13,.os 2 0 (qdg l.length (qaq s l) i).length),(41,.int .i64 i),(40,.int .i64 N),(12,.os 1 0 N),(7,.ptr [.int .i64 l.length,.sl (rl.map qaJ),.sl (pl.map qaJ)])],[(2,⟨2,true,(qdg l.length (qaq s l) i).map qhL⟩),(1,⟨1,true,(ql4 l.length (qaq s l) i).map qBT⟩)],96,82⟩) (fun _=>True) ?_ trivial ?_
  ·exact qaa (nx:=96) (k:=2) (ns:=[(13,2)]) (ks:=[41,40,12,7]) [(864,1)] rfl (by simp;rfl) (by kernel_rfl)
  intro i hi _
  have hal1:=hal i
  by_cases hL:i<N
  rotate_left
  ·obtain rfl:i=N:=by omega
   repeat'(first|refine zQ ?_|(refine zI ?_;intro hlt)|(refine zC ?_ ?_<;>first|intro h|simp)|fail)
   all_goals first
    |exact absurd (show i<i by omega) hL
    |exact qDL rfl rfl rfl (by simp) rfl rfl
    |trace_state
  have hpl1:=qyK (n:=l.length) (R:=qaq s l) (m:=i)
  have hsu:=ql5 (n:=l.length) (R:=qaq s l) i
  unfold qEb at hsu
  have hgi:((ql4 l.length (qaq s l) i)[i]'(by omega))=(ql4 l.length (qaq s l) i).getD i false:=by rw[List.getD_eq_getElem?_getD,List.getElem?_eq_getElem (by omega)];rfl
  cases hm:(ql4 l.length (qaq s l) i).getD i false with
  |false=>
   rw[hm]at hgi hsu
   rw[if_neg (by simp)]at hsu
   rw[hsu,qAM hm]
   repeat'(first|refine zQ ?_|(refine zI ?_;intro hlt)|(refine zC ?_ ?_<;>first|intro h|simp)|fail)
   all_goals first
    |exact absurd hL (by omega)
    |(exfalso;simp[hgi]at *;done)
    |exact⟨hL,trivial,qaa (nx:=96) (k:=0) (ns:=[]) (ks:=[13,41,40,12,7]) [(2,2),(1,1)] rfl (by simp) (by kernel_rfl)⟩
    |trace_state
  |true=>
   rw[hm]at hgi hsu
   rw[if_pos rfl]at hsu
   have hpy:=qyJ hm
   have hir:i<rl.length:=by omega
   have hcl:=qq8 qrk (qAK (rl[i]'hir) (by rw[hrg i hir,qe2];exact hn0) (by rw[hrg i hir,qe2];omega))
   repeat'(first|((with_reducible apply qao);rfl;rfl)|refine zS ?_|refine zA ?_|refine zF hcl ?_|(refine zI ?_;intro hlt)|(refine zC ?_ ?_<;>first|intro h|simp)|fail)
   all_goals try exact absurd hL (by omega)
   all_goals try(exfalso;simp[hgi]at *;done)
   refine qhy (f:=qhL) (a:=(i,rl[i])) (l:=qdg l.length (qaq s l) i) qBU rfl rfl rfl rfl rfl rfl (by kernel_rfl) (by kernel_rfl) (by omega) rfl ?_
   have epy:(qdg l.length (qaq s l) i).length+1=(qdg l.length (qaq s l) (i+1)).length:=by rw[hpy];simp
   rw[show qdg l.length (qaq s l) i++[(i,rl[i])]=qdg l.length (qaq s l) (i+1)by rw[hpy,hrg i hir],epy]
   repeat'(first|((with_reducible apply qao);rfl;rfl)|refine zS ?_|refine zA ?_|fail)
   refine qad l.length (fun k=>⟨[(66,.int .i64 k),(65,.int .i64 l.length),(14,.int .i64 i),(13,.os 2 0 (qdg l.length (qaq s l) (i+1)).length),(41,.int .i64 i),(40,.int .i64 N),(12,.os 1 0 N),(7,.ptr [.int .i64 l.length,.sl (rl.map qaJ),.sl (pl.map qaJ)])],[(2,⟨2,true,(qdg l.length (qaq s l) (i+1)).map qhL⟩),(1,⟨1,true,((List.range k).foldl (Ord.stepR (qaq s l) i) (ql4 l.length (qaq s l) i)).map qBT⟩)],96,82⟩) (fun _=>True) ?_ trivial ?_
   ·exact qaa (nx:=96) (k:=0) (ns:=[]) (ks:=[66,65,14,13,41,40,12,7]) [(2,2),(1,1)] rfl (by simp) (by kernel_rfl)
   intro k hk _
   have hfl:((List.range k).foldl (Ord.stepR (qaq s l) i) (ql4 l.length (qaq s l) i)).length=N:=by rw[qqk];exact hal i
   by_cases hK:k<l.length
   rotate_left
   ·obtain rfl:k=l.length:=by omega
    repeat'(first|refine zQ ?_|(refine zC ?_ ?_<;>first|intro h|simp)|fail)
    all_goals try exact absurd (show l.length<l.length by omega) hK
    refine⟨hL,trivial,?_⟩
    rw[←hsu]
    exact qaa (nx:=96) (k:=0) (ns:=[]) (ks:=[13,41,40,12,7]) [(2,2),(1,1)] rfl (by simp) (by kernel_rfl)
   have c2:=h4 i k hL hK
   have hfs:(List.range (k+1)).foldl (Ord.stepR (qaq s l) i) (ql4 l.length (qaq s l) i)=Ord.stepR (qaq s l) i ((List.range k).foldl (Ord.stepR (qaq s l) i) (ql4 l.length (qaq s l) i)) k:=by
    rw[List.range_succ,List.foldl_append];rfl
   rw[hfs]
   generalize (List.range k).foldl (Ord.stepR (qaq s l) i) (ql4 l.length (qaq s l) i)=A at*
   have hpk:2^k<N:=by have:=Nat.pow_lt_pow_right (a:=2) (by omega) hK;omega
   cases hx:nx (qaq s l) i k with
   |false=>
    rw[hx]at c2
    rw[show Ord.stepR (qaq s l) i A k=A by unfold Ord.stepR;rw[if_neg (by rw[hx];simp)]]
    repeat'(first|refine zQ ?_|refine zF c2 ?_|(refine zC ?_ ?_<;>first|intro h|simp)|fail)
    all_goals try exact absurd hK (by omega)
    exact⟨hK,trivial,qaa (nx:=96) (k:=0) (ns:=[]) (ks:=[66,65,14,13,41,40,12,7]) [(2,2),(1,1)] rfl (by simp) (by kernel_rfl)⟩
   |true=>
    rw[hx]at c2
    rw[show Ord.stepR (qaq s l) i A k=A.set (i|||2^k) true by unfold Ord.stepR;rw[if_pos hx]]
    have hor:i|||2^k<N:=by rw[hN];exact qqj (by omega) hK
    repeat'(first|((with_reducible apply qce);rfl;rfl;rfl;omega)|((with_reducible apply qlf);rfl;rfl;rfl;(exact⟨by omega,by omega⟩))|refine zS ?_|refine zA ?_|refine zF c2 ?_|(refine zI ?_;intro hlt)|(refine zC ?_ ?_<;>first|intro h|simp)|fail)
    all_goals try exact absurd hK (by omega)
    refine qaF (f:=qBT) (l:=A) (a:=true) rfl rfl rfl (by omega) rfl rfl rfl rfl (Nat.le_refl _) rfl ?_
    repeat'(first|refine zQ ?_|fail)
    exact⟨hK,trivial,qaa (nx:=96) (k:=0) (ns:=[]) (ks:=[66,65,14,13,41,40,12,7]) [(2,2),(1,1)] rfl (by simp) (by kernel_rfl)⟩
theorem qyL(s:Site)(hz:Sized s)(hd:s.dreds.length<1000000000000)(h100:s.bed.levels.length≤100)(l:List Cut)(hl:l.length≤9223372036854775807):Contract Tryz.prog 53 [.agg (encSite s),.sl (l.map encCut)] (.ret (.tup [.sl ((qvo s l).1.map qcx),.sl ((qvo s l).2.1.map qhL),.int .i64 (qvo s l).2.2])):=
 qFE (qdS qlD _) (qeC qBU _) (qjv s hz hd h100 l hl)
def qjT(rows:List (List D)):List (List D):=rows.map fun r=>r.map fun _=>D.undef
theorem qvp{w:World}{pu:Nat→Prop}{ow:Nat→Ow}{o:Ow}{k:Nat}{rows:List (List D)}(hk:k≠0)(h:qb5 w pu ow o ⟨k,qan rows,rows⟩):qb5 w pu ow o ⟨k,qan (qjT rows),qjT rows⟩:=by
 refine⟨fun h=>h,?_⟩
 have h2:=h.2
 cases o with
 |dead=>exact h2
 |pending=>trivial
 |empty=>simp only at h2 ⊢;rw[h2];rfl
 |mp g=>exact absurd h2.1.2 hk
 |lies g o k' sz=>
  obtain⟨a1,a2,a3,a4,c,t,a5,a6,a7⟩:=h2
  refine⟨a1,a2,fun r hr=>?_,by simpa[qjT]using a4,c,t,a5,a6,fun i j d hd=>?_⟩
  ·obtain⟨r',hr',rfl⟩:=List.mem_map.1 hr
   simpa using a3 r' hr'
  ·unfold qau qjT at hd
   simp only[List.getElem?_map]at hd
   cases hri:rows[i]? with
   |none=>rw[hri]at hd;cases hd
   |some r=>
    rw[hri]at hd
    simp only[Option.map_some,Option.bind_some,List.getElem?_map]at hd
    cases hrj:r[j]? with
    |none=>rw[hrj]at hd;cases hd
    |some d'=>
     obtain⟨v,hv,_⟩:=a7 i j d' (by unfold qau;rw[hri];exact hrj)
     rw[hrj]at hd
     injection hd with hd
     subst hd
     exact⟨v,hv,.pure _ _ (.undef v)⟩
theorem qvq{P:Program}{g:FuncId}{ds:List D}{k k2:Nat}{rows rows2:List (List D)}{ik:IntKind}{q:Int}(hk:k2≠0)(hc:Contract P g ds (.ret (.tup [.fr k rows,.fr k2 rows2,.int ik q]))):Contract P g ds (.ret (.tup [.fr k rows,.fr k2 (qjT rows2),.int ik q])):=by
 refine⟨hc.1,fun S w args hS hargs=>(hc.2 S w args hS hargs).mono ?_⟩
 rintro e w' ⟨hb,Q,hQ,v,rfl,hr⟩
 refine⟨hb,Q,hQ,v,rfl,fun m=>?_⟩
 obtain⟨ow,hm,hv,hpend⟩:=hr m
 have ea:∀rs:List (List D),qaO m (.tup [.fr k rows,.fr k2 rs,.int ik q])=(.tup [.os m 0 rows.length,.os (m+1) 0 rs.length,.int ik q],[(m,⟨k,qan rows,rows⟩),(m+1,⟨k2,qan rs,rs⟩)]):=fun rs=>by simp[qaO,adT,adE,adC,qdv]
 rw[ea]at hm hv hpend ⊢
 have el:(qjT rows2).length=rows2.length:=by simp[qjT]
 rw[el]
 refine⟨ow,⟨fun b blk h=>?_,fun b h=>?_,hm.injO,hm.ownO,hm.zone⟩,hv,fun b h=>?_⟩
 ·simp only[lkH]at h
  split at h
  ·rename_i e1
   exact hm.blk b blk (by simp only[lkH];rw[if_pos e1];exact h)
  ·rename_i e1
   split at h
   ·rename_i e2
    injection h with h
    subst h
    exact qvp hk (hm.blk b ⟨k2,qan rows2,rows2⟩ (by simp only[lkH];rw[if_neg e1,if_pos e2]))
   ·cases h
 ·refine hm.none b ?_
  simp only[lkH]at h ⊢
  split at h
  ·cases h
  ·rename_i e1
   rw[if_neg e1]
   split at h
   ·cases h
   ·rename_i e2;rw[if_neg e2]
 ·refine hpend b ?_
  simp only[lkH]at h ⊢
  split at h
  ·cases h
  ·rename_i e1
   rw[if_neg e1]
   split at h
   ·cases h
   ·rename_i e2;rw[if_neg e2]
theorem qoB:Sized qoJ:=⟨by decide,by decide,by decide,by decide,by decide,by decide,by intro g hg;simp[qoJ]at hg;subst hg;decide,by decide,by intro g hg;simp[qoJ]at hg;subst hg;decide⟩
theorem qFF:qvo qoJ [qBN,qD9]=([1,0],[],0):=by kernel_rfl
theorem qyM:(qvo qoJ [qBN]).1=[]∧qjT ((qvo qoJ [qBN]).2.1.map qhL)=[[.undef,.undef]]∧(qvo qoJ [qBN]).2.2=11:=⟨by kernel_rfl,by kernel_rfl,by kernel_rfl⟩
theorem qFG:qH4 qoJ qoJ.bed qD9=22000∧qH5 qoJ qoJ.bed qD9=0:=⟨by kernel_rfl,by kernel_rfl⟩
theorem qoC:Contract Tryz.prog 19 [] (.ret (.bool true)):=by
 have h0:=qFs
 have h1:=qDj qoJ qoB (by decide) qoJ.bed (by decide) qD9
 rw[qFG.1,qFG.2]at h1
 have h2:Contract Tryz.prog 53 [.agg (encSite qoJ),.sl [encCut qBN,encCut qD9]] (.ret (.tup [.fr 1 [[.int .i64 1],[.int .i64 0]],.fr 2 [],.int .i64 0])):=by
  have h:=qjv qoJ qoB (by decide) (by decide) [qBN,qD9] (by decide)
  rw[qFF]at h
  exact h
 have h3:Contract Tryz.prog 53 [.agg (encSite qoJ),.sl [encCut qBN]] (.ret (.tup [.fr 1 [],.fr 2 [[.undef,.undef]],.int .i64 11])):=by
  have h:=qvq (by decide) (qjv qoJ qoB (by decide) (by decide) [qBN] (by decide))
  rw[qyM.1,qyM.2.1,qyM.2.2]at h
  exact h
 have h4:Contract Tryz.prog 38 [.sl [[.int .i64 1],[.int .i64 0]],.sl [[.int .i64 1],[.int .i64 0]]] (.ret (.bool true)):=c79 [1,0] [1,0] (by decide)
 refine zT mix Tryz.func19 Tryz.ntmps19 Tryz.results19 rfl rfl rfl ?_;simp only[qab,Nat.reduceAdd]
 repeat'(first|((with_reducible apply qkc);rfl;rfl;rfl)|refine zS ?_|refine zA ?_|refine zF h0 ?_|refine zF h1 ?_|fail)
 refine qbt rfl h2 rfl (zL rfl) rfl ?_
 repeat'(first|refine zQ ?_|refine zF h0 ?_|fail)
 refine qbt rfl h3 rfl (zL rfl) rfl ?_
 repeat'(first|refine zQ ?_|fail)
 refine qbt rfl h4 rfl (zL rfl) rfl ?_
 repeat'(first|refine zA ?_|refine zE ?_|fail)
 all_goals first
  |rfl
  |trace_state
theorem qMg{l:List Nat}:l.map qcx=(l.map fun i:Nat=>(i:Int)).map qal:=by rw[List.map_map];rfl
theorem qyR(l:List Nat)(hl:l.length<1000000000000):Contract Tryz.prog 38 [.sl (l.map qcx),.sl (l.map qcx)] (.ret (.bool true)):=by
 have h:=c79 (l.map fun i:Nat=>(i:Int)) (l.map fun i:Nat=>(i:Int)) (by simpa using hl)
 rw[decide_eq_true rfl]at h
 rw[qMg]
 exact h
theorem qyS(g:Grid)(hg:g.levels.length<1000000000000):Contract Tryz.prog 47 [.agg (qag g)] (.ret (.bool (qxb g qrj))):=by
 have h1:=c32 g qrj hg
 refine zT mix Tryz.func47 Tryz.ntmps47 Tryz.results47 rfl rfl rfl ?_;simp only[qab,Nat.reduceAdd]
 repeat'(first|(with_reducible rfl)|refine zQ ?_|refine zF h1 ?_|refine zE ?_|fail)
 all_goals first|rfl|trace_state
theorem qqv(g:Grid):qxb g g=true:=by simp[qxb,qbR]
end Go.Pv.Soil

import Derived.Test.YtfklpkgdobdbpaaGreatCCA
import Derived.Test.YtfklpkgdobdbpaaGreatCCB
import Derived.Test.YtfklpkgdobdbpaaGreatCCD
/- Part of the proofs over YtfklpkgdobdbpaaGreat: N91. -/
set_option linter.unusedVariables false
set_option linter.unusedSimpArgs false
set_option linter.unnecessarySimpa false
open Go Go.Proofs Go.Pv
set_option maxHeartbeats 8000000
set_option maxRecDepth 100000
set_option linter.unusedSimpArgs false
set_option linter.unusedVariables false
namespace Go.Pv.Soil
def qK7(s:Site)(i j:Nat):Bool:=decide (i=j)||qdr s.bed i j
def qKS(s:Site)(a b:Cut):Bool:=(qaH s a).all fun i=>(qaH s b).all fun j=> !qK7 s i j
theorem qMd{s:Site}{a b:Cut}{i j:Nat}(hi:i<(qaH s a).length)(hj:j<(qaH s b).length)(h:qK7 s (qaH s a)[i] (qaH s b)[j]=true):qKS s a b=false:=by
 rw[Bool.eq_false_iff]
 intro hh
 have h1:=List.all_eq_true.1 hh _ (List.getElem_mem hi)
 have h2:=List.all_eq_true.1 h1 _ (List.getElem_mem hj)
 rw[h]at h2
 cases h2
theorem qLU{s:Site}{a b:Cut}(h:∀i (hi:i<(qaH s a).length) j (hj:j<(qaH s b).length),qK7 s (qaH s a)[i] (qaH s b)[j]=false):qKS s a b=true:=by
 refine List.all_eq_true.2 fun x hx=>List.all_eq_true.2 fun y hy=>?_
 obtain⟨i,hi,rfl⟩:=List.mem_iff_getElem.1 hx
 obtain⟨j,hj,rfl⟩:=List.mem_iff_getElem.1 hy
 rw[h i hi j hj]
 rfl
theorem qMe{s:Site}{a b:Cut}(h:qKS s a b=true):qMk s a b:=fun i hi j hj=>by
 have h1:=List.all_eq_true.1 (List.all_eq_true.1 h i hi) j hj
 unfold qK7 at h1
 rw[Bool.not_eq_true',Bool.or_eq_false_iff]at h1
 exact⟨of_decide_eq_false h1.1,h1.2⟩
theorem qMt(s:Site)(hs:OkGrid s.bed)(a b:Cut)(ha:OkCut s a)(hb:OkCut s b):Contract Tryz.prog 77 [.agg (encSite s),.agg (encCut a),.agg (encCut b)] (.ret (.bool (qKS s a b))):=by
 have h1:=qhj s hs a ha
 have h2:=qhj s hs b hb
 obtain⟨_,hla,hpa,hca⟩:=qby hs ha
 obtain⟨_,hlb,hpb,hcb⟩:=qby hs hb
 have hN:= @qMd s a b
 have hY:= @qLU s a b
 have hft:∀j (hj:j<(qaH s a).length),(qaH s a)[j]<s.bed.levels.length:=fun j hj=>hla _ (List.getElem_mem hj)
 have hfu:∀j (hj:j<(qaH s b).length),(qaH s b)[j]<s.bed.levels.length:=fun j hj=>hlb _ (List.getElem_mem hj)
 generalize qKS s a b=R at*
 generalize qaH s a=X at*
 generalize qaH s b=Y at*
 refine zT mix Tryz.func77 Tryz.ntmps77 Tryz.results77 rfl rfl rfl ?_;simp only[qac,Nat.reduceAdd]
 repeat'(first|refine zQ ?_|refine zF h1 ?_|refine zF h2 ?_|fail)
 refine qaf X.length (fun i=>⟨[(9,.int .i64 i),(7,.sl (X.map qcX)),(8,.sl (Y.map qcX)),(3,.op 0 0 0)],[(0,⟨12,true,[encSite s]⟩)],32,51⟩) (fun i=>∀p (hp:p<X.length),p<i→∀q (hq:q<Y.length),qK7 s X[p] Y[q]=false) ?_ (fun p hp h=>absurd h (by omega)) ?_
 ·exact qaa (nx:=32) (k:=0) (ns:=[]) (ks:=[9,7,8,3]) [(0,0)] rfl (by simp) (by kernel_rfl)
 intro i hi hC
 by_cases hL:i<X.length
 rotate_left
 ·have e:R=true:=hY fun p hp q hq=>hC p hp (by omega) q hq
  rw[e]
  repeat'(first|(with_reducible rfl)|refine zQ ?_|(refine zC ?_ ?_<;>first|intro h|simp)|refine zE ?_|fail)
  all_goals first|rfl|exact absurd hL (by omega)|trace_state
 repeat'(first|refine zQ ?_|(refine zC ?_ ?_<;>first|intro h|simp)|refine zE ?_|fail)
 all_goals try exact absurd hL (by omega)
 refine qaf Y.length (fun j=>⟨[(10,.int .i64 j),(9,.int .i64 i),(7,.sl (X.map qcX)),(8,.sl (Y.map qcX)),(3,.op 0 0 0)],[(0,⟨12,true,[encSite s]⟩)],32,51⟩) (fun j=>∀q (hq:q<Y.length),q<j→qK7 s X[i] Y[q]=false) ?_ (fun p hp h=>absurd h (by omega)) ?_
 ·exact qaa (nx:=32) (k:=0) (ns:=[]) (ks:=[10,9,7,8,3]) [(0,0)] rfl (by simp) (by kernel_rfl)
 intro j hj hJ
 by_cases hM:j<Y.length
 rotate_left
 ·repeat'(first|refine zQ ?_|(refine zI ?_;intro hlt)|(refine zC ?_ ?_<;>first|intro h|simp)|(refine zG ?_ ?_<;>first|intro h|simp)|refine zE ?_|fail)
  all_goals first
   |exact absurd hM (by omega)
   |exact⟨hL,(fun p hp hpi q hq=>by
     rcases Nat.lt_succ_iff_lt_or_eq.1 hpi with h'|rfl
     ·exact hC p hp h' q hq
     ·exact hJ q hq (by omega)),qaa (nx:=32) (k:=0) (ns:=[]) (ks:=[9,7,8,3]) [(0,0)] rfl (by simp) (by kernel_rfl)⟩
   |trace_state
 have h3:=c61 s.bed hs X[i] Y[j] (hft i hL) (hfu j hM)
 have hNp:=hN (i:=i) (j:=j) hL hM
 have hpr:qK7 s X[i] Y[j]=(decide (X[i]=Y[j])||qdr s.bed X[i] Y[j]):=rfl
 generalize qdr s.bed X[i] Y[j]=be at*
 cases hq:qK7 s X[i] Y[j]with
 |true=>
  rw[hNp hq]
  have hor:X[i]=Y[j]∨be=true:=by
   rw[hpr,Bool.or_eq_true,decide_eq_true_eq]at hq
   exact hq
  repeat'(first|(with_reducible rfl)|refine zQ ?_|refine zF h3 ?_|(refine zI ?_;intro hlt)|(refine zC ?_ ?_<;>first|intro h|simp)|(refine zG ?_ ?_<;>first|intro h|simp)|refine zE ?_|fail)
  all_goals first|rfl|exact absurd hM (by omega)|(exfalso;rcases hor with h'|h'<;>first|omega|(simp[h']at *;done))|trace_state
 |false=>
  have hnn:X[i]≠Y[j]∧be=false:=by
   rw[hpr,Bool.or_eq_false_iff,decide_eq_false_iff_not]at hq
   exact hq
  repeat'(first|refine zQ ?_|refine zF h3 ?_|(refine zI ?_;intro hlt)|(refine zC ?_ ?_<;>first|intro h|simp)|(refine zG ?_ ?_<;>first|intro h|simp)|refine zE ?_|fail)
  all_goals first
   |exact absurd hM (by omega)
   |(exfalso;have:=hnn.1;omega)
   |(exfalso;have h':=hnn.2;simp[h']at *;done)
   |exact⟨hM,(fun q' hq' h'=>by
     rcases Nat.lt_succ_iff_lt_or_eq.1 h' with h'|rfl
     ·exact hJ q' hq' h'
     ·exact hq),qaa (nx:=32) (k:=0) (ns:=[]) (ks:=[10,9,7,8,3]) [(0,0)] rfl (by simp) (by kernel_rfl)⟩
   |trace_state
theorem law_disjoint(s:Site)(hw:Wide s)(a b:Cut):Contract Tryz.prog 16 [.agg (encSite s),.agg (encCut a),.agg (encCut b)] (.ret (.bool true)):=by
 have h0:=qK6
 have h2:Contract Tryz.prog 21 [.sl ([a,b].map encCut),.int .i64 2] (.ret (.bool (qxb [a,b] 2))):=qBO [a,b] (by simp) 2 (by omega)
 have hlv:=hw.lv
 by_cases h100:s.bed.levels.length≤100
 rotate_left
 ·refine zT mix Tryz.func16 Tryz.ntmps16 Tryz.results16 rfl rfl rfl ?_;simp only[qac,Nat.reduceAdd]
  repeat'(first|((with_reducible apply qad);(exact qbD rfl (by simp) rfl);(exact h2);rfl)|(with_reducible rfl)|refine zQ ?_|refine zF h0 ?_|(refine zG ?_ ?_<;>first|intro h|simp)|refine zE ?_|fail)
  all_goals first|rfl|(exfalso;omega)|(exfalso;simp at *;done)|trace_state
 cases hf:qxb [a,b] 2 with
 |false=>
  rw[hf]at h2
  refine zT mix Tryz.func16 Tryz.ntmps16 Tryz.results16 rfl rfl rfl ?_;simp only[qac,Nat.reduceAdd]
  repeat'(first|((with_reducible apply qad);(exact qbD rfl (by simp) rfl);(exact h2);rfl)|(with_reducible rfl)|refine zQ ?_|refine zF h0 ?_|(refine zG ?_ ?_<;>first|intro h|simp)|refine zE ?_|fail)
  all_goals first|rfl|(exfalso;omega)|(exfalso;simp at *;done)|trace_state
 |true=>
 rw[hf]at h2
 by_cases hg:FitS s
 rotate_left
 ·obtain⟨e,he,h3⟩:=qLe s hw h100 hg [a,b] (by simp)
  refine zT mix Tryz.func16 Tryz.ntmps16 Tryz.results16 rfl rfl rfl ?_;simp only[qac,Nat.reduceAdd]
  repeat'(first|((with_reducible (show qan _ (.call _) _ _ _ _));first|((with_reducible apply qad);(exact qbD rfl (by simp) rfl);(exact h2);rfl)|((with_reducible apply qaj);(exact qmW rfl rfl (by simp) rfl);(exact h3);rfl))|(with_reducible rfl)|refine zQ ?_|refine zF h0 ?_|(refine zG ?_ ?_<;>first|intro h|simp)|refine zE ?_|fail)
  all_goals first|rfl|(exfalso;omega)|(exfalso;simp at *;done)|trace_state
 have hz:=hg.z
 have a1:=qhi s hz [a,b] (by simp) hg.d
 by_cases hall:qde s [a,b]=0
 rotate_left
 ·generalize qde s [a,b]=q at*
  refine zT mix Tryz.func16 Tryz.ntmps16 Tryz.results16 rfl rfl rfl ?_;simp only[qac,Nat.reduceAdd]
  repeat'(first|((with_reducible (show qan _ (.call _) _ _ _ _));first|((with_reducible apply qad);(exact qbD rfl (by simp) rfl);(exact h2);rfl)|((with_reducible apply qaj);(exact qmW rfl rfl (by simp) rfl);(exact a1);rfl))|(with_reducible rfl)|refine zQ ?_|refine zF h0 ?_|(refine zG ?_ ?_<;>first|intro h|simp)|refine zE ?_|fail)
  all_goals first|rfl|(exfalso;omega)|(exfalso;simp at *;done)|trace_state
 rw[hall]at a1
 obtain⟨hls,hlc⟩:=qfp hall
 have ok:=(qd4 hall).1
 have hca:OkCut s a:=hlc 0 (by simp)
 have hcb:OkCut s b:=hlc 1 (by simp)
 have ha1:qde s [a]=0:=qLd hall (i:=0) (by simp)
 have hb1:qde s [b]=0:=qLd hall (i:=1) (by simp)
 have ap:=qMt s ok.bed a b hca hcb
 cases hap:qKS s a b with
 |false=>
  rw[hap]at ap
  refine zT mix Tryz.func16 Tryz.ntmps16 Tryz.results16 rfl rfl rfl ?_;simp only[qac,Nat.reduceAdd]
  repeat'(first|((with_reducible (show qan _ (.call _) _ _ _ _));first|((with_reducible apply qad);(exact qbD rfl (by simp) rfl);(exact h2);rfl)|((with_reducible apply qaj);(exact qmW rfl rfl (by simp) rfl);(exact a1);rfl))|(with_reducible rfl)|refine zQ ?_|refine zF h0 ?_|refine zF ap ?_|(refine zG ?_ ?_<;>first|intro h|simp)|refine zE ?_|fail)
  all_goals first|rfl|(exfalso;omega)|(exfalso;simp at *;done)|trace_state
 |true=>
 rw[hap]at ap
 have hbed:=qr3 s ok
 have hlow:OkBed s (qeL s s.bed a):=qeM ok.bed hbed hca
 have hn:=qLA (u:=s.bed) hbed.al (qMe hap)
 have e1:=qK5 ha1 hbed
 have e2:=qK5 hb1 hbed
 have e3:=qK5 hb1 hlow
 have e4:=hn.ref (okG ok.gr)
 have e5:=hn.take (okG ok.gr)
 have e6:qbR s (qeL s s.bed a) b=qbR s s.bed b:=by unfold qbR;rw[e5]
 have hll:(qeL s s.bed a).levels.length=s.bed.levels.length:=qaZ _ _ _
 have c1:=qwa s hz hg.d s.bed (by omega) a
 have c2:=qwp s hz hg.d s.bed h100 b
 have c3:=qwp s hz hg.d (qeL s s.bed a) (by omega) b
 have c4:=qBf s hz hg.d s.bed (by omega) b
 have c5:=qBf s hz hg.d (qeL s s.bed a) (by omega) b
 have c6:=qwb s hz hg.d s.bed h100 b
 have c7:=qwb s hz hg.d (qeL s s.bed a) (by omega) b
 have c8:=qwc s hz hg.d s.bed h100 b
 have d9:=qwc s hz hg.d (qeL s s.bed a) (by omega) b
 rw[show qC6 s s.bed a=qeL s s.bed a from if_pos e1,e1]at c1
 rw[show qBt s s.bed b=qiO s s.bed b from if_pos e2,e2]at c2
 rw[show qBt s (qeL s s.bed a) b=qiO s s.bed b from(if_pos e3).trans e4,e3]at c3
 rw[show qv9 s s.bed b=qbb s s.bed b from if_pos e2,e2]at c4
 rw[show qv9 s (qeL s s.bed a) b=qbb s s.bed b from(if_pos e3).trans e5,e3]at c5
 rw[show qC7 s s.bed b=(qbR s s.bed b).1 from if_pos e2,show qzC s s.bed b=qyn (qbR s s.bed b)from if_pos e2]at c6
 rw[show qC7 s (qeL s s.bed a) b=(qbR s s.bed b).1 from(if_pos e3).trans (by rw[e6]),show qzC s (qeL s s.bed a) b=qyn (qbR s s.bed b)from(if_pos e3).trans (by rw[e6])]at c7
 rw[show qBZ s s.bed b=(qbR s s.bed b).2.1 from if_pos e2,show qzC s s.bed b=qyn (qbR s s.bed b)from if_pos e2]at c8
 rw[show qBZ s (qeL s s.bed a) b=(qbR s s.bed b).2.1 from(if_pos e3).trans (by rw[e6]),show qzC s (qeL s s.bed a) b=qyn (qbR s s.bed b)from(if_pos e3).trans (by rw[e6])]at d9
 obtain⟨x,y,z,hv⟩:=qtB (qiO s s.bed b)
 rw[hv]at c2 c3
 generalize (qiO s s.bed b).isSome=is at*
 have hTl:(qbb s s.bed b).length≤8:=by
  rw[show(qbb s s.bed b).length=s.ground.soils.length from qdw _ _ _ _]
  exact qe0 (okG ok.gr)
 generalize qbb s s.bed b=T at*
 generalize qyn (qbR s s.bed b)=ex at*
 generalize (qbR s s.bed b).1=mi at*
 generalize (qbR s s.bed b).2.1=pc at*
 generalize qeL s s.bed a=m at*
 refine zT mix Tryz.func16 Tryz.ntmps16 Tryz.results16 rfl rfl rfl ?_;simp only[qac,Nat.reduceAdd]
 repeat'(first|((with_reducible (show qan _ (.call _) _ _ _ _));first|((with_reducible apply qad);(exact qbD rfl (by simp) rfl);(exact h2);rfl)|((with_reducible apply qaj);(exact qmW rfl rfl (by simp) rfl);(exact a1);rfl))|(with_reducible rfl)|refine zQ ?_|refine zF h0 ?_|refine zF ap ?_|refine zF c1 ?_|refine zF c2 ?_|refine zF c3 ?_|refine zF c4 ?_|refine zF c5 ?_|(refine zC ?_ ?_<;>first|intro h|simp)|(refine zG ?_ ?_<;>first|intro h|simp)|((with_reducible apply qaG);rfl;rfl)|refine zE ?_|fail)
 all_goals first|(exfalso;omega)|(exfalso;simp at *;done)|skip
 refine qaf T.length (fun k=>⟨[(19,.int .i64 k),(15,.sl (T.map qa5)),(17,.sl (T.map qa5)),(3,.op 0 0 0),(5,.op 1 0 0),(7,.op 2 0 0)],[(0,⟨12,true,[encSite s]⟩),(1,⟨8,true,[encCut b]⟩),(2,⟨6,false,[encGrid m]⟩)],96,193⟩) (fun k=>True) ?_ trivial ?_
 ·exact qaa (nx:=96) (k:=0) (ns:=[]) (ks:=[19,15,17,3,5,7]) [(0,0),(64,1),(1312,2)] rfl (by simp) (by kernel_rfl)
 intro k hk _
 by_cases hK:k<T.length
 ·repeat'(first|refine zQ ?_|(refine zI ?_;intro hlt)|(refine zC ?_ ?_<;>first|intro h|simp)|refine zE ?_|fail)
  all_goals first
   |exact absurd hK (by omega)
   |exact⟨hK,trivial,qaa (nx:=96) (k:=0) (ns:=[]) (ks:=[19,15,17,3,5,7]) [(0,0),(1,1),(2,2)] rfl (by simp) (by kernel_rfl)⟩
   |(exfalso;simp at *;done)
   |trace_state
 ·repeat'(first|refine zQ ?_|refine zF c6 ?_|refine zF c7 ?_|refine zF c8 ?_|refine zF d9 ?_|(refine zI ?_;intro hlt)|(refine zC ?_ ?_<;>first|intro h|simp)|(refine zG ?_ ?_<;>first|intro h|simp)|refine zE ?_|fail)
  all_goals first
   |rfl
   |exact absurd hK (by omega)
   |(simp;done)
   |(exfalso;simp at *;done)
   |trace_state
end Go.Pv.Soil

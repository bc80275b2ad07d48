import Derived.Test.YtfklpkgdobdbpaaGreatCAX
import Derived.Test.YtfklpkgdobdbpaaGreatCAZ
import Derived.Test.YtfklpkgdobdbpaaGreatCBC
/- Part of the proofs over YtfklpkgdobdbpaaGreat: S21, S25, Q5, S31, S34, S32, S33, S39, N11, S51, G2, S70, R14. -/
set_option linter.unusedVariables false
set_option linter.unusedSimpArgs false
set_option linter.unnecessarySimpa false
open Go Go.Proofs Go.Pv
set_option maxHeartbeats 8000000
set_option maxRecDepth 100000
set_option linter.unusedSimpArgs false
set_option linter.unusedVariables false
namespace Go.Pv.Soil
def gpE(g:Ground)(p:Pt):Int:=if qaB g≠0 then qaB g else if ptOK p=false then 2 else 0
theorem qzN{g:Ground}{p:Pt}{l:List Int}(h:gpE g p=0):qhe g p l=if(l.any fun n=> !qhQ n)=true then 2 else 0:=by
 unfold gpE at h
 unfold qhe
 split at h
 ·omega
 ·rename_i h1
  split at h
  ·omega
  ·rename_i h2
   rw[if_neg h1]
   simp[h2]
def qc8:List Int→Int
 |[]=>0
 |x::l=>if x≠0 then x else qc8 l
theorem qm8:∀{l:List Int} {i:Nat} (hi:i<l.length),l[i]≠0→(∀j (hj:j<i),l[j]=0)→qc8 l=l[i]
 |x::l,0,_,h,_=>by rw[qc8,if_pos (by simpa using h)];rfl
 |x::l,i+1,hi,h,hb=>by
  rw[qc8,if_neg (by simpa using hb 0 (by omega))]
  exact qm8 (l:=l) (by simpa using hi) (by simpa using h) fun j hj=>by simpa using hb (j+1) (by omega)
theorem qjL:∀{l:List Int},(∀j (hj:j<l.length),l[j]=0)→qc8 l=0
 |[],_=>rfl
 |x::l,hb=>by
  have h0:x=0:=hb 0 (by simp)
  rw[qc8,if_neg (by simp[h0])]
  exact qjL fun j hj=>hb (j+1) (by simpa using hj)
def qbg(g:Ground)(l:List Grid):Int:=
 if qaB g≠0 then qaB g else if qc8 (l.map qa2)≠0 then qc8 (l.map qa2)else match l with
  |a::b::_=>if qbR a b=true then 0 else 10
  |_=>0
theorem qrb{l:List Grid}{i:Nat}(hi:i<l.length)(h:qa2 l[i]≠0)(hb:∀j (hj:j<i) (hj':j<l.length),qa2 l[j]=0):qc8 (l.map qa2)=qa2 l[i]:=by
 have:=qm8 (l:=l.map qa2) (i:=i) (by simpa using hi) (by simpa using h) fun j hj=>by simpa using hb j hj (by omega)
 simpa using this
theorem c93(g:Ground)(hs:g.soils.length<1000000000000)(hb:g.borings.length<1000000000000)(l:List Grid)(hll:l.length<1000000000000)(hla:∀x∈l,x.levels.length<1000000000000):Contract Tryz.prog 211 [.agg (qam g),.sl (l.map qag)] (.ret (.int .i64 (qbg g l))):=by
 refine zT mix Tryz.func211 Tryz.ntmps211 Tryz.results211 rfl rfl rfl ?_;simp only[qab,Nat.reduceAdd]
 repeat'(first|((with_reducible apply qaj);rfl;(exact c22 g hs hb);rfl)|refine zQ ?_|(refine zC ?_ ?_<;>first|intro h|simp)|refine zE ?_|fail)
 ·simp[qbg,h]
 have h0:qaB g=0:=by assumption
 refine qad (l.length) (fun i=>⟨[(16,.int .i64 i),(15,.int .i64 l.length),(14,.sl (l.map qag)),(1,.sl (l.map qag))],[],32,39⟩) (fun i=>∀j (hj:j<i) (hj':j<l.length),qa2 l[j]=0) (qaa (k:=0) (ns:=[]) (ks:=[16,15,14,1]) [] rfl (by simp) rfl) (by omega) ?_
 intro i hi hC
 repeat'(first|((with_reducible (show qap _ (.call _) _ _ _ _));first|((with_reducible apply qaj);rfl;(exact qD6 _ (hla _ (List.getElem_mem _)));rfl)|((with_reducible apply qae);rfl;(exact qLY _ _);rfl))|refine zQ ?_|(refine zI ?_;intro hlt)|(refine zC ?_ ?_<;>first|intro h|simp)|(refine zG ?_ ?_<;>first|intro h|simp)|refine zE ?_|fail)
 ·have h2:i<l.length:=by omega
  have e:=qrb h2 h fun j hj hj'=>hC j hj hj'
  unfold qbg
  rw[if_neg (by simp[h0]),if_pos (by rw[e];exact h),e]
 ·have h2:i<l.length:=by omega
  refine⟨h2,fun j hj hj'=>?_,qaa (k:=0) (ns:=[]) (ks:=[16,15,14,1]) [] rfl (by simp) rfl⟩
  rcases Nat.lt_succ_iff_lt_or_eq.1 hj with h'|rfl
  ·exact hC j h' hj'
  ·exact h
 all_goals
  have e:qc8 (l.map qa2)=0:=qjL fun j hj=>by
   rw[List.getElem_map];exact hC j (by simp at hj;omega) _
  unfold qbg
  rw[if_neg (by simp[h0]),if_neg (by simp[e])]
 ·obtain⟨a,b,r,rfl⟩:∃a b r,l=a::b::r:=by
   match l,hlt with
   |a::b::r,_=>exact⟨a,b,r,rfl⟩
   |[a],h'=>exact absurd h' (by simp)
  have h':qbR a b=false:=h
  simp[h']
 ·obtain⟨a,b,r,rfl⟩:∃a b r,l=a::b::r:=by
   match l,hlt with
   |a::b::r,_=>exact⟨a,b,r,rfl⟩
   |[a],h'=>exact absurd h' (by simp)
  have h':qbR a b=true:=h
  simp[h']
 ·match l,h with
  |[],_=>rfl
  |[a],_=>rfl
  |a::b::r,h=>exact absurd h (by simp;omega)
def qiR(C col r w:Nat):List Nat:=(List.range w).map fun k=>r*C+col+k
def qcH(C col row w h:Nat):List Nat:=(List.range h).flatMap fun r=>qiR C col (row+r) w
theorem qBx:∀{a b:List Nat},a.Pairwise (· < ·)→b.Pairwise (· < ·)→(∀x,x∈a↔x∈b)→a=b
 |[],[],_,_,_=>rfl
 |[],y::b,_,_,h=>by have:=(h y).2 (by simp);simp at this
 |x::a,[],_,_,h=>by have:=(h x).1 (by simp);simp at this
 |x::a,y::b,ha,hb,h=>by
  rw[List.pairwise_cons]at ha hb
  have e:x=y:=by
   rcases List.mem_cons.1 ((h x).1 (by simp))with e|h1
   ·exact e
   ·rcases List.mem_cons.1 ((h y).2 (by simp))with e|h2
    ·exact e.symm
    ·have:=hb.1 x h1;have:=ha.1 y h2;omega
  subst e
  rw[qBx ha.2 hb.2 fun z=>?_]
  have hz:=h z
  constructor
  ·intro hm
   have:=ha.1 z hm
   rcases List.mem_cons.1 (hz.1 (by simp[hm]))with e|h1
   ·omega
   ·exact h1
  ·intro hm
   have:=hb.1 z hm
   rcases List.mem_cons.1 (hz.2 (by simp[hm]))with e|h1
   ·omega
   ·exact h1
theorem qs0{C col row w h i:Nat}:i∈qcH C col row w h↔∃r k,r<h∧k<w∧i=(row+r)*C+col+k:=by
 constructor
 ·intro hi
  obtain⟨r,hr,hi⟩:=List.mem_flatMap.1 hi
  obtain⟨k,hk,rfl⟩:=List.mem_map.1 hi
  exact⟨r,k,List.mem_range.1 hr,List.mem_range.1 hk,rfl⟩
 ·rintro⟨r,k,hr,hk,rfl⟩
  exact List.mem_flatMap.2 ⟨r,List.mem_range.2 hr,List.mem_map.2 ⟨k,List.mem_range.2 hk,rfl⟩⟩
theorem qC1{C col row w h R i:Nat}(hc:col+w≤C)(hr:row+h≤R)(hi:i∈qcH C col row w h):i<R*C:=by
 obtain⟨r,k,h1,h2,rfl⟩:=qs0.1 hi
 have:(row+r+1)*C≤R*C:=Nat.mul_le_mul_right C (by omega)
 rw[Nat.add_mul,Nat.one_mul]at this
 omega
theorem qs1{C col row w:Nat}(hc:col+w≤C):∀(h:Nat),(qcH C col row w h).Pairwise (· < ·)
 |0=>by simp[qcH]
 |h+1=>by
  have ih:=qs1 (row:=row) hc h
  unfold qcH at ih ⊢
  rw[List.range_succ,List.flatMap_append,List.flatMap_singleton]
  rw[List.pairwise_append]
  refine⟨ih,?_,fun x hx y hy=>?_⟩
  ·unfold qiR
   rw[List.pairwise_map]
   exact List.pairwise_lt_range.imp fun h=>by omega
  ·obtain⟨r,k,h1,h2,rfl⟩:=qs0.1 hx
   obtain⟨k',h3,rfl⟩:=List.mem_map.1 hy
   have:(row+r+1)*C≤(row+h)*C:=Nat.mul_le_mul_right C (by omega)
   rw[Nat.add_mul,Nat.one_mul]at this
   have:=List.mem_range.1 h3
   omega
theorem qpO{l:List Nat}(h:l.Pairwise (· < ·)):l.Nodup:=h.imp fun h=>by omega
def qfq(l:List Int)(foot:List Nat)(v:Int):List Int:=(List.range l.length).map fun i=>if i∈foot∧lv l i≠30000 then min (lv l i) v else lv l i
def qnf(l:List Int)(foot:List Nat)(v:Int):List Nat:=foot.filter fun i=>decide (lv l i≠30000∧v<lv l i)
theorem qaM(l:List Int)(foot:List Nat)(v:Int):(qfq l foot v).length=l.length:=by simp[qfq]
theorem qcM{l:List Int}{foot:List Nat}{v:Int}{i:Nat}(hi:i<l.length):lv (qfq l foot v) i=if i∈foot∧lv l i≠30000 then min (lv l i) v else lv l i:=by
 rw[qbv (by rw[qaM];exact hi)]
 simp[qfq]
theorem qs2{l:List Int}{i:Nat}(hi:l.length≤i):lv l i=30000:=by
 unfold lv
 rw[List.getD_eq_getElem?_getD,List.getElem?_eq_none hi]
 rfl
theorem qxD{l:List Int}{v:Int}:qfq l [] v=l:=qnd (qaM _ _ _) fun i hi=>by
 rw[qaM]at hi
 rw[qcM hi,if_neg]
 simp
theorem qC2{l:List Int}{foot:List Nat}{v:Int}{j:Nat}(hf:foot.Nodup)(hj:j<foot.length)(hi:foot[j]<l.length)(hk:lv l foot[j]≠30000)(h:v<lv l foot[j]):
  qfq l (foot.take (j+1)) v=(qfq l (foot.take j) v).set foot[j] v:=by
 refine qnd (by simp[qaM]) fun i hi2=>?_
 rw[qaM]at hi2
 rw[qcM hi2,qlz (by rw[qaM];exact hi),qcM hi2,List.take_succ_eq_append_getElem hj]
 by_cases e:foot[j]=i
 ·subst e
  rw[if_pos ⟨List.mem_append_right _ List.mem_cons_self,hk⟩,if_pos rfl]
  omega
 ·rw[if_neg e]
  have:i∈foot.take j++[foot[j]]↔i∈foot.take j:=by rw[List.mem_append,List.mem_singleton];exact⟨fun h=>h.resolve_right fun h=>e h.symm,.inl⟩
  simp only[this]
theorem qxE{l:List Int}{foot:List Nat}{v:Int}{j:Nat}(hj:j<foot.length)(h:lv l foot[j]=30000∨¬v<lv l foot[j]):
  qfq l (foot.take (j+1)) v=qfq l (foot.take j) v:=by
 refine qnd (by simp[qaM]) fun i hi2=>?_
 rw[qaM]at hi2
 rw[qcM hi2,qcM hi2,List.take_succ_eq_append_getElem hj]
 by_cases e:foot[j]=i
 ·subst e
  rcases h with h|h
  ·simp[h]
  ·split<;>split<;>omega
 ·have:i∈foot.take j++[foot[j]]↔i∈foot.take j:=by rw[List.mem_append,List.mem_singleton];exact⟨fun h=>h.resolve_right fun h=>e h.symm,.inl⟩
  simp only[this]
theorem qBy{l:List Int}{foot:List Nat}{v:Int}{j:Nat}(hf:foot.Nodup)(hj:j<foot.length)(hi:foot[j]<l.length):lv (qfq l (foot.take j) v) foot[j]=lv l foot[j]:=by
 rw[qcM hi,if_neg]
 rintro⟨hm,_⟩
 obtain⟨k,hk,e⟩:=List.mem_iff_getElem.1 hm
 rw[List.length_take]at hk
 rw[List.getElem_take]at e
 have:=(List.getElem_inj (h₀:=by omega) (h₁:=hj) hf).1 e
 omega
theorem qC3{l:List Int}{foot:List Nat}{v:Int}{j:Nat}(hj:j<foot.length)(hk:lv l foot[j]≠30000)(h:v<lv l foot[j]):qnf l (foot.take (j+1)) v=qnf l (foot.take j) v++[foot[j]]:=by
 unfold qnf
 rw[List.take_succ_eq_append_getElem hj,List.filter_append]
 simp[hk,h]
theorem qBz{l:List Int}{foot:List Nat}{v:Int}{j:Nat}(hj:j<foot.length)(h:lv l foot[j]=30000∨¬v<lv l foot[j]):qnf l (foot.take (j+1)) v=qnf l (foot.take j) v:=by
 unfold qnf
 rw[List.take_succ_eq_append_getElem hj,List.filter_append]
 have:decide (lv l foot[j]≠30000∧v<lv l foot[j])=false:=decide_eq_false (by rintro⟨h1,h2⟩;rcases h with h|h;exact h1 h;exact h h2)
 rw[show [foot[j]].filter (fun i=>decide (lv l i≠30000∧v<lv l i))=[]by rw[List.filter_cons,this];rfl,List.append_nil]
theorem qxF{l:List Int}{foot:List Nat}{v:Int}(ha:foot.Pairwise (· < ·))(hl:∀i∈foot,i<l.length):(List.range l.length).filter (fun i=>decide (lv (qfq l foot v) i≠lv l i))=qnf l foot v:=by
 refine qBx (List.Pairwise.filter _ List.pairwise_lt_range) (ha.filter _) fun x=>?_
 simp only[List.mem_filter,List.mem_range,decide_eq_true_eq,qnf]
 constructor
 ·rintro⟨h1,h2⟩
  rw[qcM h1]at h2
  split at h2
  ·rename_i hc;exact⟨hc.1,hc.2,by omega⟩
  ·exact(h2 rfl).elim
 ·rintro⟨h1,h2,h3⟩
  refine⟨hl x h1,?_⟩
  rw[qcM (hl x h1),if_pos ⟨h1,h2⟩]
  omega
theorem qpP{l:List Int}{foot:List Nat}{v:Int}(hv:v<30000)(i:Nat):lv (qfq l foot v) i=30000↔lv l i=30000:=by
 rcases Nat.lt_or_ge i l.length with h|h
 ·rw[qcM h]
  split
  ·rename_i hc;constructor
   ·intro h;omega
   ·intro h;exact(hc.2 h).elim
  ·exact Iff.rfl
 ·rw[qs2 h,qs2 (by rw[qaM];exact h)]
theorem qz4{l:List Int}{f g:List Nat}{v w:Int}(hv:v<30000)(hw:w<30000):qfq (qfq l f v) g w=qfq (qfq l g w) f v:=by
 refine qnd (by simp[qaM]) fun i hi=>?_
 simp only[qaM]at hi
 rw[qcM (l:=qfq l f v) (by rw[qaM];exact hi),qcM (l:=qfq l g w) (by rw[qaM];exact hi)]
 have k1:=qpP (l:=l) (foot:=f) hv i
 have k2:=qpP (l:=l) (foot:=g) hw i
 have e1:=qcM (l:=l) (foot:=f) (v:=v) hi
 have e2:=qcM (l:=l) (foot:=g) (v:=w) hi
 by_cases h0:lv l i=30000
 ·rw[if_neg (fun h=>h.2 (k1.2 h0)),if_neg (fun h=>h.2 (k2.2 h0)),k1.2 h0,k2.2 h0]
 ·by_cases hf:i∈f<;>by_cases hg:i∈g<;>simp only[hf,hg,h0,true_and,false_and,ne_eq,not_true,not_false_iff,if_true,if_false,k1,k2,e1,e2]<;>omega
theorem qz6{x:Soil}(h:qjh x=0):1≤x.a∧x.a≤1000:=by
 unfold qjh at h
 split at h
 ·omega
 ·omega
theorem qxH{l:List Soil}(h:qcG l=0){i:Nat}(hi:i<l.length):qjh l[i]=0:=by
 unfold qcG at h
 split at h
 ·omega
 ·split at h
  ·omega
  ·exact(qgt h hi).2
theorem qxI{g:Ground}{b:Boring}(hg:OkG g)(hb:OkBoring g.soils b){i:Nat}(hi:i<b.layers.length):1≤qpQ g b i∧qpQ g b i≤1000:=by
 obtain⟨h1,h2,h3⟩:=qlA hb hi
 rw[h3]
 exact qz6 (qxH hg.soils h2)
theorem qxJ{g:Ground}{b:Boring}(hg:OkG g)(hb:OkBoring g.soils b):∀n,n≤b.layers.length→0≤qrh g b n∧qrh g b n≤1000∧(0<n→1≤qrh g b n)
 |0,_=>⟨Int.le_refl _,(show(0:Int)≤1000 by decide),fun h=>absurd h (by omega)⟩
 |n+1,h=>by
  have h1:=qxJ hg hb n (by omega)
  have h2:=qxI hg hb (i:=n) (by omega)
  simp only[qrh]
  omega
theorem qC4{g:Ground}(hg:OkG g){n:Nat}(hn:n<g.borings.length):1≤qvC g n∧qvC g n≤1000:=by
 have hb:=hg.bor _ hn
 have e:qvC g n=qrh g g.borings[n] g.borings[n].layers.length:=by simp only[qvC,List.getElem?_eq_getElem hn]
 rw[e]
 have:=qxJ hg hb _ (Nat.le_refl _)
 have:=hb.len
 omega
def qdq(g:Ground)(m:Grid)(i:Nat):Int:=qvC g (qbq g (qar m i))
theorem qet{g:Ground}(hg:OkG g)(m:Grid)(i:Nat):1≤qdq g m i∧qdq g m i≤1000:=qC4 hg (qe9 hg.n.1)
def qba(g:Ground)(m:Grid)(a b:Nat):Int:=10*m.side/max (qdq g m a) (qdq g m b)
theorem qfT(g:Ground)(m:Grid)(a b:Nat):qba g m a b=qba g m b a:=by simp only[qba,Int.max_comm]
theorem qfr{g:Ground}(hg:OkG g){m:Grid}(hm:OkGrid m)(a b:Nat):1≤qba g m a b∧qba g m a b≤100000:=by
 have h1:=qet hg m a
 have h2:=qet hg m b
 have hs:=hm.bds.2.1
 unfold qba
 constructor
 ·exact Int.le_ediv_of_mul_le (by omega) (by omega)
 ·exact Int.le_trans (Int.ediv_le_self _ (by omega)) (by omega)
structure Steep where
 high:Int
 low:Int
 over:Int
def qbW(s:Steep):List D:=[.int .i64 s.high,.int .i64 s.low,.int .i64 s.over]
theorem qgv:qfm qbW 3:=fun _=>⟨rfl,rfl⟩
def qbx(g:Ground)(m:Grid)(a:Nat)(b:Int):List Steep:=
 if b<a∨lv m.levels a=30000∨lv m.levels b.toNat=30000 then []
 else if lv m.levels a<lv m.levels b.toNat then(if 0<lv m.levels b.toNat-lv m.levels a-qba g m a b.toNat then [⟨b,a,lv m.levels b.toNat-lv m.levels a-qba g m a b.toNat⟩]else [])
 else(if 0<lv m.levels a-lv m.levels b.toNat-qba g m a b.toNat then [⟨a,b,lv m.levels a-lv m.levels b.toNat-qba g m a b.toNat⟩]else [])
def qc0(g:Ground)(m:Grid)(a:Nat)(l:List Int):List Steep:=l.flatMap (qbx g m a)
def qbI(g:Ground)(m:Grid)(n:Nat):List Steep:=(List.range n).flatMap fun a=>qc0 g m a (qbi m a m.levels.length)
theorem qof(g:Ground)(m:Grid)(a:Nat){l:List Int}{j:Nat}(hj:j<l.length):qc0 g m a (l.take (j+1))=qc0 g m a (l.take j)++qbx g m a l[j]:=by
 rw[List.take_succ_eq_append_getElem hj];simp only[qc0,List.flatMap_append,List.flatMap_cons,List.flatMap_nil,List.append_nil]
theorem qlB(g:Ground)(m:Grid)(n:Nat):qbI g m (n+1)=qbI g m n++qc0 g m n (qbi m n m.levels.length):=by
 simp[qbI,List.range_succ]
theorem qlC(g:Ground)(m:Grid)(a:Nat)(b:Int):(qbx g m a b).length≤1:=by
 unfold qbx
 (repeat' split)<;>simp
theorem qjM(g:Ground)(m:Grid)(a:Nat):∀l:List Int,(qc0 g m a l).length≤l.length
 |[]=>by simp[qc0]
 |b::l=>by
  have:=qjM g m a l
  have:=qlC g m a b
  simp only[qc0,List.flatMap_cons,List.length_append,List.length_cons]at*
  omega
theorem qgT(g:Ground)(m:Grid):∀n,(qbI g m n).length≤n*m.levels.length
 |0=>by simp[qbI]
 |n+1=>by
  have h1:=qgT g m n
  have h2:=qjM g m n (qbi m n m.levels.length)
  have h3:=qd0 m n m.levels.length
  rw[qlB,List.length_append,Nat.succ_mul]
  omega
theorem qcW(g:Grid)(i:Nat)(x:Int):∀n,x∈qbi g i n↔∃k:Nat,k<n∧x=k∧qbl g i k=true
 |0=>by simp[qbi]
 |n+1=>by
  have ih:=qcW g i x n
  simp only[qbi]
  split
  ·rename_i h
   simp only[List.mem_append,ih,List.mem_singleton]
   constructor
   ·rintro(⟨k,h1,h2,h3⟩|h1)
    ·exact⟨k,by omega,h2,h3⟩
    ·exact⟨n,by omega,h1,h⟩
   ·rintro⟨k,h1,h2,h3⟩
    by_cases e:k=n
    ·subst e;exact .inr h2
    ·exact .inl ⟨k,by omega,h2,h3⟩
  ·rename_i h
   rw[ih]
   constructor
   ·rintro⟨k,h1,h2,h3⟩
    exact⟨k,by omega,h2,h3⟩
   ·rintro⟨k,h1,h2,h3⟩
    refine⟨k,?_,h2,h3⟩
    by_cases e:k=n
    ·subst e;exact absurd h3 h
    ·omega
def qE6(m:Grid)(l:List Int):Grid:=⟨m.x,m.y,m.side,m.cols,m.rows,l⟩
theorem OkGrid.rng{m:Grid}(h:OkGrid m):∀i,i<m.levels.length→lv m.levels i≠30000→ -20000≤lv m.levels i∧lv m.levels i≤20000:=by
 intro i hi hk
 rw[qbv hi]at hk ⊢
 rcases h.lvl i hi with h|h
 ·exact absurd h hk
 ·simpa[qhQ]using h
theorem qKq(g:Grid)(h:OkGrid g)(h0:qa2 g=0)(i:Nat)(hi:i<g.levels.length):Contract Tryz.prog 148 [.agg (qag g),.int .i64 i] (.ret (.tup [.fr 1 ((qbi g i g.levels.length).map qal),.int .i64 0])):=by
 refine zT mix Tryz.func148 Tryz.ntmps148 Tryz.results148 rfl rfl rfl ?_;simp only[qab,Nat.reduceAdd]
 repeat'(first|((with_reducible (show qap _ (.call _) _ _ _ _));first|((with_reducible apply qaj);rfl;(exact qKm g h i hi h0);rfl)|((with_reducible apply qdT);rfl;(exact qL6 g h i hi);(exact qbL);rfl))|refine zQ ?_|fail)
 exact qbs (qnV rfl (by simp) rfl rfl rfl)
def qog(g:Ground)(m:Grid):List Int:=(List.range m.levels.length).map (qdq g m)
theorem qxK(g:Ground)(m:Grid):(qog g m).length=m.levels.length:=by simp[qog]
theorem qpR(g:Ground)(m:Grid){i:Nat}(h:i<(qog g m).length):(qog g m)[i]=qdq g m i:=by simp[qog]
def qeF(g:Ground)(m:Grid):List D:=[.int .i64 m.x,.int .i64 m.y,.int .i64 m.side,.int .i64 m.cols,.int .i64 m.rows,.sl (m.levels.map qal),.sl ((qog g m).map qal)]
theorem qKr(gd:Ground)(g:Grid)(h:OkGrid g)(h0:qa2 g=0)(i:Nat)(hi:i<g.levels.length):Contract Tryz.prog 215 [.agg (qeF gd g),.int .i64 i] (.ret (.fr 1 ((qbi g i g.levels.length).map qal))):=by
 refine zT mix Tryz.func215 Tryz.ntmps215 Tryz.results215 rfl rfl rfl ?_;simp only[qab,Nat.reduceAdd]
 repeat'(first|((with_reducible apply qwI);rfl;(exact qKq g h h0 i hi);(exact qbL);rfl;rfl)|refine zQ ?_|fail)
 exact qpp rfl rfl rfl
theorem qKs(g:Ground)(hg:OkG g)(m:Grid)(hm:OkGrid m)(a b:Nat)(ha:a<m.levels.length)(hb:b<m.levels.length):Contract Tryz.prog 216 [.agg (qeF g m),.int .i64 a,.int .i64 b] (.ret (.int .i64 (qba g m a b))):=by
 have hl:=qxK g m
 have ea:=qpR g m (i:=a) (by omega)
 have eb:=qpR g m (i:=b) (by omega)
 have ba:=qet hg m a
 have bb:=qet hg m b
 have hs:=hm.bds.2.1
 have h3:=hm.small
 refine zT mix Tryz.func216 Tryz.ntmps216 Tryz.results216 rfl rfl rfl ?_;simp only[qab,Nat.reduceAdd]
 repeat'(first|refine zQ ?_|(refine zI ?_;intro hlt)|refine zE ?_|fail)
 all_goals (simp only[qba,ea,eb])
theorem qdr{g:Grid}(h:OkGrid g){i:Nat}(hi:i<g.levels.length):ptOK (qar g i)=true:=by
 have hb:=h.bds
 have hc:=qdn h hi
 have he:=h.ends
 have h1:=Int.mul_le_mul_of_nonneg_right (show(i:Int)%g.cols+1≤g.cols by omega) (show 0≤g.side by omega)
 have h2:=Int.mul_le_mul_of_nonneg_right (show(i:Int)/g.cols+1≤g.rows by omega) (show 0≤g.side by omega)
 rw[Int.add_mul,Int.one_mul]at h1 h2
 refine decide_eq_true ?_
 show(-1000000≤g.x+(i:Int)%g.cols*g.side+g.side/2∧g.x+(i:Int)%g.cols*g.side+g.side/2≤1000000)∧(-1000000≤g.y+(i:Int)/g.cols*g.side+g.side/2∧g.y+(i:Int)/g.cols*g.side+g.side/2≤1000000)
 omega
theorem c62(g:Ground)(hg:OkG g)(hs:g.soils.length<1000000000000)(m:Grid)(hm:OkGrid m)(a b:Nat)(ha:a<m.levels.length)(hb:b<m.levels.length):Contract Tryz.prog 137 [.agg (qam g),.agg (qag m),.int .i64 a,.int .i64 b] (.ret (.int .i64 (qba g m a b))):=by
 have ba:=qet hg m a
 have bb:=qet hg m b
 have hsd:=hm.bds.2.1
 have pa:=qdr hm ha
 have pb:=qdr hm hb
 have h1:Contract Tryz.prog 196 [.agg (qam g),.agg (encPt (qar m a))] (.ret (.int .i64 (qdq g m a))):=qKo g hg hs _ pa
 have h2:Contract Tryz.prog 196 [.agg (qam g),.agg (encPt (qar m b))] (.ret (.int .i64 (qdq g m b))):=qKo g hg hs _ pb
 refine zT mix Tryz.func137 Tryz.ntmps137 Tryz.results137 rfl rfl rfl ?_;simp only[qab,Nat.reduceAdd]
 repeat'(first|((with_reducible (show qap _ (.call _) _ _ _ _));first|((with_reducible apply qbF);rfl;(exact qCP m hm a ha);rfl;(exact zL rfl);rfl)|((with_reducible apply qbF);rfl;(exact qCP m hm b hb);rfl;(exact zL rfl);rfl))|refine zQ ?_|refine zF h1 ?_|refine zF h2 ?_|refine zE ?_|fail)
 all_goals rfl
theorem qL7(l:List Int)(hl:l.length<1000000000000)(v:Int):Contract Tryz.prog 262 [.sl (l.map qal),.int .i64 v] (.ret (.int .i64 (qcs (fun x=>decide (v=x)) l))):=by
 refine zT mix Tryz.func262 Tryz.ntmps262 Tryz.results262 rfl rfl rfl ?_;simp only[qab,Nat.reduceAdd]
 repeat'(first|refine zQ ?_|fail)
 refine qad (l.length) (fun i=>⟨[(8,.int .i64 i),(7,.int .i64 l.length),(0,.sl (l.map qal)),(1,.int .i64 v)],[],0,19⟩) (fun i=>∀j (hj:j<i) (hj':j<l.length),decide (v=l[j])=false) (qaa (k:=0) (ns:=[]) (ks:=[8,7,0,1]) [] rfl (by simp) rfl) (by omega) ?_
 intro i hi hC
 repeat'(first|refine zQ ?_|(refine zI ?_;intro hlt)|(refine zC ?_ ?_<;>first|intro h|simp)|refine zE ?_|fail)
 ·have h2:i<l.length:=by omega
  exact(qa1 (p:=fun x=>decide (v=x)) h2 (by simp;first|exact h|exact h.symm) fun j hj=>hC j hj (by omega)).symm
 ·have h2:i<l.length:=by omega
  refine⟨by omega,fun j hj hj'=>?_,qaa (k:=0) (ns:=[]) (ks:=[8,7,0,1]) [] rfl (by simp) rfl⟩
  rcases Nat.lt_succ_iff_lt_or_eq.1 hj with h'|rfl
  ·exact hC j h' hj'
  ·simp;first|exact h|exact fun e=>h e.symm
 ·refine(qa8 fun x hx=>?_).symm
  obtain⟨j,hj,rfl⟩:=List.mem_iff_getElem.1 hx
  exact hC j (by omega) hj
theorem qKt(l:List Int)(hl:l.length<1000000000000)(v:Int):Contract Tryz.prog 214 [.sl (l.map qal),.int .i64 v] (.ret (.bool (l.any fun x=>decide (v=x)))):=by
 refine zT mix Tryz.func214 Tryz.ntmps214 Tryz.results214 rfl rfl rfl ?_;simp only[qab,Nat.reduceAdd]
 repeat'(first|((with_reducible apply qaj);rfl;(exact qL7 l hl v);rfl)|refine zQ ?_|refine zE ?_|fail)
 exact qcZ
def qrj:Grid:=⟨0,0,0,0,0,[]⟩
theorem qKv(l:List Int)(h0:0<l.length)(hl:l.length≤1000000000):Contract Tryz.prog 190 [.sl (l.map qal)] (.ret (.fr 1 (l.map qal))):=by
 refine zT mix Tryz.func190 Tryz.ntmps190 Tryz.results190 rfl rfl rfl ?_;simp only[qab,Nat.reduceAdd]
 repeat'(first|refine zQ ?_|fail)
 refine qk8 (f:=qal) rfl h0 rfl ?_
 repeat'(first|refine zQ ?_|fail)
 refine qk7 (f:=qal) qbL rfl rfl rfl (fun _=>rfl) (by kernel_rfl) (by kernel_rfl) hl rfl ?_
 repeat'(first|refine zA ?_|fail)
 exact qhu rfl rfl rfl rfl
theorem c70(l:List Int)(hl:l.length≤1000000000):Contract Tryz.prog 155 [.sl (l.map qal)] (.ret (.fr 1 (l.map qal))):=by
 refine zT mix Tryz.func155 Tryz.ntmps155 Tryz.results155 rfl rfl rfl ?_;simp only[qab,Nat.reduceAdd]
 repeat'(first|refine zQ ?_|fail)
 refine qk7 (f:=qal) qbL rfl rfl rfl (fun _=>rfl) (by kernel_rfl) (by kernel_rfl) hl rfl ?_
 repeat'(first|refine zA ?_|fail)
 exact qhu rfl rfl rfl rfl
def qu6(g:Grid):List D:=[.int .i64 g.x,.int .i64 g.y,.int .i64 g.side,.int .i64 g.cols,.int .i64 g.rows]
theorem c91(g:Grid)(hl:g.levels.length≤1000000000):Contract Tryz.prog 79 [.agg (qag g)] (.ret (.agg (qu6 g++[.fr 1 (g.levels.map qal)]))):=by
 refine zT mix Tryz.func79 Tryz.ntmps79 Tryz.results79 rfl rfl rfl ?_;simp only[qab,Nat.reduceAdd]
 repeat'(first|((with_reducible apply qdT);rfl;(exact c70 g.levels hl);(exact qbL);rfl)|refine zQ ?_|fail)
 exact qbs (qq0 (cs:=qu6 g) (len:=g.levels.length) rfl rfl (by simp) rfl)
def qcx(n:Nat):List D:=[.int .i64 (n:Int)]
theorem qlD:qfm qcx 1:=fun _=>⟨rfl,rfl⟩
theorem qrk:qjg qal 1:=fun _=>⟨rfl,rfl,rfl⟩
structure OkCut(s:Site)(c:Cut):Prop where
 dr:0≤qdb s c.dredger
 lvl: -20000≤c.level∧c.level≤20000
 st:0≤c.start∧c.start≤1000000
 col:0≤c.col∧1≤c.cols∧c.col+c.cols≤s.bed.cols
 row:0≤c.row∧1≤c.rows∧c.row+c.rows≤s.bed.rows
theorem qH2{s:Site}{c:Cut}(h:qec s c=0):OkCut s c:=by
 unfold qec at h
 split at h
 ·omega
 ·split at h
  ·omega
  ·split at h
   ·omega
   ·rename_i h1 h2 h3
    have h2:=Classical.not_not.1 h2
    have h3:=Classical.not_not.1 h3
    have:=of_decide_eq_true h2.1
    exact⟨by omega,this,h2.2,by omega,by omega⟩
def qaD(s:Site)(c:Cut):List Nat:=qcH s.bed.cols.toNat c.col.toNat c.row.toNat c.cols.toNat c.rows.toNat
theorem qlE(C col row w h:Nat):qcH C col row w (h+1)=qcH C col row w h++qiR C col (row+h) w:=by
 unfold qcH;rw[List.range_succ,List.flatMap_append,List.flatMap_singleton]
theorem qs6(C col r k:Nat):qiR C col r (k+1)=qiR C col r k++[r*C+col+k]:=by
 unfold qiR;rw[List.range_succ,List.map_append];rfl
theorem qrl(C col r k:Nat):(qiR C col r k).length=k:=by simp[qiR]
theorem qir(C col row w:Nat):∀h,(qcH C col row w h).length=h*w
 |0=>by simp[qcH]
 |h+1=>by rw[qlE,List.length_append,qir C col row w h,qrl,Nat.add_mul,Nat.one_mul]
theorem qxL{s:Site}{c:Cut}(hb:OkGrid s.bed)(h:OkCut s c){i k:Nat}(hi:(i:Int)<c.rows)(hk:(k:Int)≤c.cols):(0≤(c.row+i)*s.bed.cols∧(c.row+i)*s.bed.cols+c.col+k≤1024)∧
  (c.row+i)*s.bed.cols+c.col+k=(((c.row.toNat+i)*s.bed.cols.toNat+c.col.toNat+k:Nat):Int):=by
 obtain⟨dr,lvl,st,col,row⟩:=h
 have hbd:=hb.bds
 have hc:=hb.cells
 obtain⟨C,eC⟩:=Int.eq_ofNat_of_zero_le (show 0≤s.bed.cols by omega)
 obtain⟨a,ea⟩:=Int.eq_ofNat_of_zero_le (show 0≤c.row by omega)
 obtain⟨R,eR⟩:=Int.eq_ofNat_of_zero_le (show 0≤s.bed.rows by omega)
 have hc':(C:Int)*R≤1024:=by rw[←eC,←eR];exact hc
 have h1:(a+i+1)*C≤R*C:=Nat.mul_le_mul_right C (by omega)
 rw[Nat.add_mul,Nat.one_mul]at h1
 have h2:(C:Int)*R=((R*C:Nat):Int):=by rw[Int.mul_comm];simp
 have h3:((a:Int)+i)*C=(((a+i)*C:Nat):Int):=by simp
 rw[h2]at hc'
 have e1:c.row.toNat=a:=by omega
 have e2:s.bed.cols.toNat=C:=by omega
 rw[e1,e2,eC,ea,h3]
 refine⟨by omega,?_⟩
 omega
theorem qbm{s:Site}{c:Cut}(hb:OkGrid s.bed)(h:OkCut s c):(qaD s c).Pairwise (· < ·)∧(∀i∈qaD s c,i<s.bed.levels.length)∧0<(qaD s c).length∧(qaD s c).length≤1024:=by
 obtain⟨dr,lvl,st,col,row⟩:=h
 have hbd:=hb.bds
 have hl:=hb.len
 have hsm:=hb.small
 have e:s.bed.levels.length=s.bed.rows.toNat*s.bed.cols.toNat:=by
  have h1:((s.bed.rows.toNat*s.bed.cols.toNat:Nat):Int)=s.bed.cols*s.bed.rows:=by
   rw[Int.natCast_mul,Int.toNat_of_nonneg (by omega),Int.toNat_of_nonneg (by omega),Int.mul_comm]
  omega
 have ha:(qaD s c).Pairwise (· < ·):=qs1 (by omega) _
 have hlt:∀i∈qaD s c,i<s.bed.levels.length:=fun i hi=>by rw[e];exact qC1 (by omega) (by omega) hi
 have hle:(qaD s c).length=c.rows.toNat*c.cols.toNat:=qir _ _ _ _ _
 have hpos:0<c.rows.toNat*c.cols.toNat:=Nat.mul_pos (by omega) (by omega)
 have hmul:c.rows.toNat*c.cols.toNat≤s.bed.rows.toNat*s.bed.cols.toNat:=Nat.mul_le_mul (by omega) (by omega)
 exact⟨ha,hlt,by omega,by omega⟩
theorem qxM{s:Site}{c:Cut}(hb:OkGrid s.bed)(h:OkCut s c){i k:Nat}(hi:(i:Int)<c.rows)(hk:(k:Int)≤c.cols):i*c.cols.toNat+k≤1024:=by
 have h4:=(qbm hb h).2.2.2
 unfold qaD at h4
 rw[qir]at h4
 have:(i+1)*c.cols.toNat≤c.rows.toNat*c.cols.toNat:=Nat.mul_le_mul_right _ (by omega)
 rw[Nat.add_mul,Nat.one_mul]at this
 omega
theorem qeG(s:Site)(hb:OkGrid s.bed)(c:Cut)(hc:OkCut s c):Contract Tryz.prog 121 [.agg (encSite s),.agg (encCut c)] (.ret (.sl ((qaD s c).map qcx))):=by
 obtain⟨hdr,hlv,hst,hcol,hrow⟩:=id hc
 have hbd:=hb.bds
 refine zT mix Tryz.func121 Tryz.ntmps121 Tryz.results121 rfl rfl rfl ?_;simp only[qab,Nat.reduceAdd]
 repeat'(first|refine zQ ?_|fail)
 refine qad c.rows.toNat (fun i=>⟨[(5,.os 2 0 (qcH s.bed.cols.toNat c.col.toNat c.row.toNat c.cols.toNat i).length),(10,.int .i64 i),(9,.int .i64 c.rows),(2,.op 0 0 0),(3,.op 1 0 0)],[(2,⟨1,true,(qcH s.bed.cols.toNat c.col.toNat c.row.toNat c.cols.toNat i).map qcx⟩),(0,⟨12,true,[encSite s]⟩),(1,⟨8,true,[encCut c]⟩)],96,37⟩) (fun i=>True)
  (qaa (nx:=96) (k:=1) (ns:=[(5,2)]) (ks:=[10,9,2,3]) [(0,0),(32,1)] rfl (by simp;rfl) (by kernel_rfl)) trivial ?_
 intro i hi _
 by_cases hL:(i:Int)<c.rows
 rotate_left
 ·obtain rfl:i=c.rows.toNat:=by omega
  repeat'(first|refine zQ ?_|(refine zC ?_ ?_<;>first|intro h|simp)|fail)
  all_goals first
   |exact absurd (by assumption) hL
   |exact qwU rfl rfl rfl rfl
   |trace_state
 repeat'(first|refine zQ ?_|(refine zC ?_ ?_<;>first|intro h|simp)|fail)
 all_goals try exact absurd hL (by omega)
 refine qad c.cols.toNat (fun k=>⟨[(15,.int .i64 k),(14,.int .i64 c.cols),(6,.int .i64 i),(10,.int .i64 i),(9,.int .i64 c.rows),(5,.os 2 0 (qcH s.bed.cols.toNat c.col.toNat c.row.toNat c.cols.toNat i++qiR s.bed.cols.toNat c.col.toNat (c.row.toNat+i) k).length),(2,.op 0 0 0),(3,.op 1 0 0)],[(2,⟨1,true,(qcH s.bed.cols.toNat c.col.toNat c.row.toNat c.cols.toNat i++qiR s.bed.cols.toNat c.col.toNat (c.row.toNat+i) k).map qcx⟩),(0,⟨12,true,[encSite s]⟩),(1,⟨8,true,[encCut c]⟩)],96,37⟩) (fun k=>True)
  ?_ trivial ?_
 ·rw[show qcH s.bed.cols.toNat c.col.toNat c.row.toNat c.cols.toNat i++qiR s.bed.cols.toNat c.col.toNat (c.row.toNat+i) 0=qcH s.bed.cols.toNat c.col.toNat c.row.toNat c.cols.toNat i by simp[qiR]]
  exact qaa (nx:=96) (k:=1) (ns:=[]) (ks:=[15,14,6,10,9,5,2,3]) [(2,2),(0,0),(1,1)] rfl (by simp) (by kernel_rfl)
 intro k hk _
 by_cases hM:(k:Int)<c.cols
 ·have hcb:=qxL hb hc hL (k:=k) (by omega)
  have hrb:=qxM hb hc hL (k:=k) (by omega)
  have hlen:(qcH s.bed.cols.toNat c.col.toNat c.row.toNat c.cols.toNat i++qiR s.bed.cols.toNat c.col.toNat (c.row.toNat+i) k).length≤1024:=by rw[List.length_append,qir,qrl];exact hrb
  repeat'(first|refine zQ ?_|(refine zC ?_ ?_<;>first|intro h|simp)|fail)
  all_goals try exact absurd hM (by omega)
  rw[hcb.2]
  refine qaH (f:=qcx) (a:=(c.row.toNat+i)*s.bed.cols.toNat+c.col.toNat+k) (l:=qcH s.bed.cols.toNat c.col.toNat c.row.toNat c.cols.toNat i++qiR s.bed.cols.toNat c.col.toNat (c.row.toNat+i) k) qlD rfl rfl rfl rfl rfl rfl (by kernel_rfl) (by kernel_rfl) (by omega) rfl ?_
  repeat'(first|refine zQ ?_|fail)
  refine⟨by omega,trivial,?_⟩
  have e:qcH s.bed.cols.toNat c.col.toNat c.row.toNat c.cols.toNat i++qiR s.bed.cols.toNat c.col.toNat (c.row.toNat+i) k++[(c.row.toNat+i)*s.bed.cols.toNat+c.col.toNat+k]=qcH s.bed.cols.toNat c.col.toNat c.row.toNat c.cols.toNat i++qiR s.bed.cols.toNat c.col.toNat (c.row.toNat+i) (k+1):=by rw[qs6,List.append_assoc]
  have el:(qcH s.bed.cols.toNat c.col.toNat c.row.toNat c.cols.toNat i++qiR s.bed.cols.toNat c.col.toNat (c.row.toNat+i) k).length+1=(qcH s.bed.cols.toNat c.col.toNat c.row.toNat c.cols.toNat i++qiR s.bed.cols.toNat c.col.toNat (c.row.toNat+i) (k+1)).length:=by rw[←e];simp;omega
  rw[e,el]
  exact qaa (nx:=96) (k:=1) (ns:=[]) (ks:=[15,14,6,10,9,5,2,3]) [(2,2),(0,0),(1,1)] rfl (by simp) (by kernel_rfl)
 ·obtain rfl:k=c.cols.toNat:=by omega
  repeat'(first|refine zQ ?_|(refine zC ?_ ?_<;>first|intro h|simp)|fail)
  all_goals try exact absurd (by assumption) hM
  refine⟨by omega,trivial,?_⟩
  rw[←qlE]
  exact qaa (nx:=96) (k:=1) (ns:=[]) (ks:=[5,10,9,2,3]) [(2,2),(0,0),(1,1)] rfl (by simp) (by kernel_rfl)
theorem qdL(s:Site)(hb:OkGrid s.bed)(c:Cut)(hc:OkCut s c):Contract Tryz.prog 43 [.agg (encSite s),.agg (encCut c)] (.ret (.sl ((qaD s c).map qcx))):=by
 obtain⟨hdr,hlv,hst,hcol,hrow⟩:=id hc
 have hbd:=hb.bds
 refine zT mix Tryz.func43 Tryz.ntmps43 Tryz.results43 rfl rfl rfl ?_;simp only[qab,Nat.reduceAdd]
 repeat'(first|refine zQ ?_|fail)
 refine qad c.rows.toNat (fun i=>⟨[(5,.os 2 0 (qcH s.bed.cols.toNat c.col.toNat c.row.toNat c.cols.toNat i).length),(6,.int .i64 (c.row+i)),(2,.op 0 0 0),(3,.op 1 0 0)],[(2,⟨1,true,(qcH s.bed.cols.toNat c.col.toNat c.row.toNat c.cols.toNat i).map qcx⟩),(0,⟨12,true,[encSite s]⟩),(1,⟨8,true,[encCut c]⟩)],96,41⟩) (fun i=>True)
  ?_ trivial ?_
 ·rw[show c.row+((0:Nat):Int)=c.row by omega]
  exact qaa (nx:=96) (k:=1) (ns:=[(5,2)]) (ks:=[6,2,3]) [(0,0),(32,1)] rfl (by simp;rfl) (by kernel_rfl)
 intro i hi _
 by_cases hL:(i:Int)<c.rows
 rotate_left
 ·obtain rfl:i=c.rows.toNat:=by omega
  repeat'(first|refine zQ ?_|(refine zC ?_ ?_<;>first|intro h|simp)|fail)
  all_goals first
   |exact absurd (show((c.rows.toNat:Nat):Int)<c.rows by omega) hL
   |exact qwU rfl rfl rfl rfl
   |trace_state
 repeat'(first|refine zQ ?_|(refine zC ?_ ?_<;>first|intro h|simp)|fail)
 all_goals try exact absurd hL (by omega)
 refine qad c.cols.toNat (fun k=>⟨[(7,.int .i64 (c.col+k)),(6,.int .i64 (c.row+i)),(5,.os 2 0 (qcH s.bed.cols.toNat c.col.toNat c.row.toNat c.cols.toNat i++qiR s.bed.cols.toNat c.col.toNat (c.row.toNat+i) k).length),(2,.op 0 0 0),(3,.op 1 0 0)],[(2,⟨1,true,(qcH s.bed.cols.toNat c.col.toNat c.row.toNat c.cols.toNat i++qiR s.bed.cols.toNat c.col.toNat (c.row.toNat+i) k).map qcx⟩),(0,⟨12,true,[encSite s]⟩),(1,⟨8,true,[encCut c]⟩)],96,41⟩) (fun k=>True)
  ?_ trivial ?_
 ·rw[show qcH s.bed.cols.toNat c.col.toNat c.row.toNat c.cols.toNat i++qiR s.bed.cols.toNat c.col.toNat (c.row.toNat+i) 0=qcH s.bed.cols.toNat c.col.toNat c.row.toNat c.cols.toNat i by simp[qiR],show c.col+((0:Nat):Int)=c.col by omega]
  exact qaa (nx:=96) (k:=1) (ns:=[]) (ks:=[7,6,5,2,3]) [(2,2),(0,0),(1,1)] rfl (by simp) (by kernel_rfl)
 intro k hk _
 by_cases hM:(k:Int)<c.cols
 ·have hcb:=qxL hb hc hL (k:=k) (by omega)
  have hrb:=qxM hb hc hL (k:=k) (by omega)
  have hlen:(qcH s.bed.cols.toNat c.col.toNat c.row.toNat c.cols.toNat i++qiR s.bed.cols.toNat c.col.toNat (c.row.toNat+i) k).length≤1024:=by rw[List.length_append,qir,qrl];exact hrb
  repeat'(first|refine zQ ?_|(refine zC ?_ ?_<;>first|intro h|simp)|fail)
  all_goals try exact absurd hM (by omega)
  rw[show(c.row+ ↑i)*s.bed.cols+(c.col+ ↑k)=(((c.row.toNat+i)*s.bed.cols.toNat+c.col.toNat+k:Nat):Int)by rw[←hcb.2];omega]
  refine qaH (f:=qcx) (a:=(c.row.toNat+i)*s.bed.cols.toNat+c.col.toNat+k) (l:=qcH s.bed.cols.toNat c.col.toNat c.row.toNat c.cols.toNat i++qiR s.bed.cols.toNat c.col.toNat (c.row.toNat+i) k) qlD rfl rfl rfl rfl rfl rfl (by kernel_rfl) (by kernel_rfl) (by omega) rfl ?_
  repeat'(first|refine zQ ?_|fail)
  refine⟨by omega,trivial,?_⟩
  have e:qcH s.bed.cols.toNat c.col.toNat c.row.toNat c.cols.toNat i++qiR s.bed.cols.toNat c.col.toNat (c.row.toNat+i) k++[(c.row.toNat+i)*s.bed.cols.toNat+c.col.toNat+k]=qcH s.bed.cols.toNat c.col.toNat c.row.toNat c.cols.toNat i++qiR s.bed.cols.toNat c.col.toNat (c.row.toNat+i) (k+1):=by rw[qs6,List.append_assoc]
  have el:(qcH s.bed.cols.toNat c.col.toNat c.row.toNat c.cols.toNat i++qiR s.bed.cols.toNat c.col.toNat (c.row.toNat+i) k).length+1=(qcH s.bed.cols.toNat c.col.toNat c.row.toNat c.cols.toNat i++qiR s.bed.cols.toNat c.col.toNat (c.row.toNat+i) (k+1)).length:=by rw[←e];simp;omega
  rw[e,el,show c.col+ ↑k+1=c.col+((k+1:Nat):Int)by omega]
  exact qaa (nx:=96) (k:=1) (ns:=[]) (ks:=[7,6,5,2,3]) [(2,2),(0,0),(1,1)] rfl (by simp) (by kernel_rfl)
 ·obtain rfl:k=c.cols.toNat:=by omega
  repeat'(first|refine zQ ?_|(refine zC ?_ ?_<;>first|intro h|simp)|fail)
  all_goals try exact absurd (show((c.cols.toNat:Nat):Int)<c.cols by omega) hM
  refine⟨by omega,trivial,?_⟩
  rw[←qlE,show c.row+ ↑i+1=c.row+((i+1:Nat):Int)by omega]
  exact qaa (nx:=96) (k:=1) (ns:=[]) (ks:=[5,6,2,3]) [(2,2),(0,0),(1,1)] rfl (by simp) (by kernel_rfl)
structure Share where
 soil:ByteArray
 vol:Int
def qbJ(s:Share):List D:=[.str s.soil,.int .i64 s.vol]
theorem qpS:qfm qbJ 2:=fun _=>⟨rfl,rfl⟩
def qs7(l:List Share)(k:Nat)(v:Int):List Share:=match l[k]? with
 |some s=>l.set k ⟨s.soil,s.vol+v⟩
 |none=>l
theorem qoi{l:List Share}{k:Nat}(h:k<l.length)(v:Int):qs7 l k v=l.set k ⟨l[k].soil,l[k].vol+v⟩:=by
 simp only[qs7,List.getElem?_eq_getElem h]
theorem qs8(l:List Share)(k:Nat)(v:Int):(qs7 l k v).length=l.length:=by
 unfold qs7
 split<;>simp
def qis(g:Ground)(side:Int)(L:List Share)(C:List Part):Nat→List Share
 |0=>L
 |j+1=>match C[j]? with
  |some p=>qs7 (qis g side L C j) (qbj g.soils p.soil).toNat ((p.top-p.bottom)*side*side)
  |none=>qis g side L C j
theorem qit(g:Ground)(side:Int)(L:List Share){C:List Part}{j:Nat}(h:j<C.length):qis g side L C (j+1)=qs7 (qis g side L C j) (qbj g.soils C[j].soil).toNat ((C[j].top-C[j].bottom)*side*side):=by
 simp only[qis,List.getElem?_eq_getElem h]
theorem qiu(g:Ground)(side:Int)(L:List Share)(C:List Part):∀j,(qis g side L C j).length=L.length
 |0=>rfl
 |j+1=>by
  have ih:=qiu g side L C j
  simp only[qis]
  split
  ·rw[qs8,ih]
  ·exact ih
def qcl(g:Ground)(m a:Grid)(i:Nat):List Part:=qaI g (qar m i) (lv m.levels i) (lv a.levels i)
def qaN(g:Ground)(m a:Grid):Nat→List Share
 |0=>g.soils.map fun s=>⟨s.name,0⟩
 |i+1=>if lv m.levels i≠30000∧lv a.levels i≠30000 then qis g m.side (qaN g m a i) (qcl g m a i) (qcl g m a i).length else qaN g m a i
theorem qdM(g:Ground)(m a:Grid):∀i,(qaN g m a i).length=g.soils.length
 |0=>by simp[qaN]
 |i+1=>by
  have ih:=qdM g m a i
  simp only[qaN]
  split
  ·rw[qiu,ih]
  ·exact ih
theorem qrm{b:Boring}{f t:Int}{p:Part}:∀{n:Nat},p∈qiQ b f t n→∃k,k<n∧p=qcL b f t k∧p.bottom<p.top
 |0,h=>by simp[qiQ]at h
 |n+1,h=>by
  simp only[qiQ]at h
  split at h
  ·rename_i hb
   rcases List.mem_append.1 h with h|h
   ·obtain⟨k,h1,h2,h3⟩:=qrm h
    exact⟨k,by omega,h2,h3⟩
   ·simp only[List.mem_singleton]at h
    subst h
    exact⟨n,by omega,rfl,hb⟩
  ·obtain⟨k,h1,h2,h3⟩:=qrm h
   exact⟨k,by omega,h2,h3⟩
theorem qfU{g:Ground}(hg:OkG g){p:Pt}{f t:Int}{q:Part}(h:q∈qaI g p f t):q.bottom<q.top∧t≤q.bottom∧q.top≤f∧0≤qbj g.soils q.soil∧(qbj g.soils q.soil).toNat<g.soils.length:=by
 have hn:=qe9 (p:=p) hg.n.1
 have hb:=hg.bor _ hn
 have e:qaI g p f t=qiQ g.borings[qbq g p] f t g.borings[qbq g p].layers.length:=by
  simp only[qaI,List.getElem?_eq_getElem hn]
 rw[e]at h
 obtain⟨k,hk,rfl,h3⟩:=qrm h
 have hbd:=qsH (b:=g.borings[qbq g p]) (f:=f) (t:=t) (n:=k)
 rw[qlo hk]
 have h4:=(hb.lay k hk).2.1
 exact⟨h3,hbd.1,hbd.2,h4,qs3 h4⟩
theorem qrn{g:Ground}(hg:OkG g)(p:Pt)(f t:Int):(qaI g p f t).length≤12:=by
 have hn:=qe9 (p:=p) hg.n.1
 have:=qij g.borings[qbq g p] f t g.borings[qbq g p].layers.length
 have:=(hg.bor _ hn).len
 simp only[qaI,List.getElem?_eq_getElem hn]
 omega
theorem qro{g:Ground}(hg:OkG g){p:Pt}{f t:Int}(h:f≤t):qaI g p f t=[]:=by
 cases hc:qaI g p f t with
 |nil=>rfl
 |cons q r=>
  have:=qfU hg (p:=p) (f:=f) (t:=t) (q:=q) (by rw[hc];exact List.mem_cons_self)
  omega
def VB(l:List Share)(B:Int):Prop:=∀i (h:i<l.length),0≤l[i].vol∧l[i].vol≤B
theorem VB.mono{l:List Share}{B B':Int}(h:VB l B)(hb:B≤B'):VB l B':=fun i hi=>by have:=h i hi;omega
theorem qC6{l:List Share}{B v V:Int}{k:Nat}(h:VB l B)(hv:0≤v∧v≤V)(hV:0≤V):VB (qs7 l k v) (B+V):=by
 intro i hi
 rw[qs8]at hi
 have h1:=h i hi
 by_cases hk:k<l.length
 ·simp only[qoi hk]
  by_cases e:k=i
  ·subst e
   simp only[List.getElem_set_self]
   omega
  ·simp only[List.getElem_set_ne e]
   omega
 ·have e:qs7 l k v=l:=by
   unfold qs7
   rw[List.getElem?_eq_none (by omega)]
  simp only[e]
  omega
theorem qxN{d s:Int}(hd:0≤d∧d≤40000)(hs:100≤s∧s≤10000):(0≤d*s∧d*s≤400000000)∧(0≤d*s*s∧d*s*s≤4000000000000)∧(0≤s*s∧s*s≤100000000)∧s*s*d=d*s*s:=by
 have h1:=qbN (a:=d) (b:=s) (m:=40000) (n:=10000) hd (by omega)
 have h2:=qbN (a:=d*s) (b:=s) (m:=400000000) (n:=10000) (by omega) (by omega)
 have h3:=qbN (a:=s) (b:=s) (m:=10000) (n:=10000) (by omega) (by omega)
 refine⟨by omega,by omega,by omega,?_⟩
 rw[Int.mul_comm (s*s) d,Int.mul_assoc]
theorem qoj{g:Ground}{side:Int}{L:List Share}{C:List Part}{B:Int}(hs:100≤side∧side≤10000)(h:VB L B)(hC:∀q∈C,0≤q.top-q.bottom∧q.top-q.bottom≤40000):∀j,VB (qis g side L C j) (B+4000000000000*(j:Int))
 |0=>by simpa[qis]using h
 |j+1=>by
  have ih:=qoj (g:=g) hs h hC j
  by_cases hj:j<C.length
  ·rw[qit g side L hj]
   have hv:=qxN (hC _ (List.getElem_mem hj)) hs
   exact(qC6 ih hv.2.1 (by omega)).mono (by omega)
  ·simp only[qis]
   rw[List.getElem?_eq_none (by omega)]
   exact ih.mono (by omega)
theorem qjP{m:Grid}(hm:OkGrid m){i:Nat}(hi:i<m.levels.length): -20000≤lv m.levels i∧lv m.levels i≤30000:=by
 have:=hm.rng i hi
 omega
theorem qjk{g:Ground}(hg:OkG g){m a:Grid}(hm:OkGrid m)(ha:OkGrid a)(hl:a.levels.length=m.levels.length){i:Nat}(hi:i<m.levels.length)(hk:lv m.levels i≠30000∧lv a.levels i≠30000):∀q∈qcl g m a i,0≤q.top-q.bottom∧q.top-q.bottom≤40000:=fun q hq=>by
 have h:=qfU hg hq
 have r1:=hm.rng i hi hk.1
 have r2:=ha.rng i (by omega) hk.2
 omega
theorem qiv{g:Ground}(hg:OkG g){m a:Grid}(hm:OkGrid m)(ha:OkGrid a)(hl:a.levels.length=m.levels.length):∀i,i≤m.levels.length→VB (qaN g m a i) (48000000000000*(i:Int))
 |0,_=>fun i hi=>by simp[qaN]
 |i+1,h=>by
  have ih:=qiv hg hm ha hl i (by omega)
  simp only[qaN]
  split
  ·rename_i hk
   have:=qoj (g:=g) hm.bds.2.1 ih (qjk hg hm ha hl (by omega) hk) (qcl g m a i).length
   have hcl:=qrn hg (qar m i) (lv m.levels i) (lv a.levels i)
   have hcl:(qcl g m a i).length≤12:=hcl
   exact this.mono (by omega)
  ·exact ih.mono (by omega)
instance qKw:TEq Tryz.prog 76 [.s,.i]:=⟨by kernel_rfl⟩
theorem qz7{g:Ground}{m a:Grid}(h:qbg g [m,a]=0):qaB g=0∧qa2 m=0∧qa2 a=0∧qbR m a=true:=by
 unfold qbg at h
 split at h
 ·omega
 ·rename_i h1
  split at h
  ·omega
  ·rename_i h2
   simp only[List.map_cons,List.map_nil,qc8]at h2
   have h:(if qbR m a=true then(0:Int)else 10)=0:=h
   split at h
   ·rename_i h4
    refine⟨by omega,?_,?_,h4⟩
    ·split at h2<;>omega
    ·split at h2
     ·omega
     ·split at h2<;>omega
   ·omega
theorem qrp{m o:Grid}(h:qbR m o=true):o=qE6 m o.levels:=by
 have p3:decide (m.x=o.x∧m.y=o.y∧m.side=o.side∧m.cols=o.cols∧m.rows=o.rows)=true:=h
 have p3:=of_decide_eq_true p3
 obtain⟨x,y,sd,c,r,l⟩:=o
 simp only at p3
 obtain⟨q1,q2,q3,q4,q5⟩:=p3
 simp only[qE6,q1,q2,q3,q4,q5]
theorem qpT{m o:Grid}(hm:OkGrid m)(ho:OkGrid o)(h:qbR m o=true):o.levels.length=m.levels.length:=by
 have a:=ho.len
 have b:=hm.len
 have c:o.cols*o.rows=m.cols*m.rows:=by rw[qrp h];rfl
 omega
def qkm(m:Grid)(k:Nat):Geo.Pt:=⟨(qar m k).x,(qar m k).y⟩
noncomputable def qhh(q:Quay)(m:Grid)(k:Nat):Int:=if(qgy q (qkm m k)).2=true then(qgy q (qkm m k)).1 else 30000
noncomputable def qmr(q:Quay)(m:Grid)(n i:Nat):List Int:=(List.range n).map fun k=>if k<i then qhh q m k else 30000
theorem qH3(q:Quay)(m:Grid)(n:Nat):List.replicate n (30000:Int)=qmr q m n 0:=by
 apply List.ext_getElem<;>simp[qmr]
theorem qol{q:Quay}{m:Grid}{n i:Nat}:(qmr q m n i).length=n:=by simp[qmr]
theorem qDg{q:Quay}{m:Grid}{n i:Nat}(h:(qgy q (qkm m i)).2=true):(qmr q m n i).set i (qgy q (qkm m i)).1=qmr q m n (i+1):=by
 apply List.ext_getElem
 ·simp[qmr]
 ·intro j h1 h2
  simp only[List.getElem_set,qmr,List.getElem_map,List.getElem_range]
  by_cases hj:i=j
  ·subst hj;rw[if_pos rfl,if_pos (by omega),qhh,if_pos h]
  ·rw[if_neg hj]
   by_cases hlt:j<i
   ·rw[if_pos hlt,if_pos (by omega)]
   ·rw[if_neg hlt,if_neg (by omega)]
theorem qFd{q:Quay}{m:Grid}{n i:Nat}(h:(qgy q (qkm m i)).2=false):qmr q m n i=qmr q m n (i+1):=by
 apply List.ext_getElem
 ·simp[qmr]
 ·intro j h1 h2
  simp only[qmr,List.getElem_map,List.getElem_range]
  by_cases hj:i=j
  ·subst hj;rw[if_neg (by omega),if_pos (by omega),qhh,if_neg (by rw[h];simp)]
  ·by_cases hlt:j<i
   ·rw[if_pos hlt,if_pos (by omega)]
   ·rw[if_neg hlt,if_neg (by omega)]
def encVio0(v:Int×Int×Int):List D:=[.int .i64 v.1,.int .i64 v.2.1,.int .i64 v.2.2]
def encBlk(x:Int×List Int):List D:=[.int .i64 x.1,.sl (x.2.map qal)]
theorem qMh:Reads Tryz.prog 53 (fun x:Int×Int×Int=>True) encVio0:=
 (qaL Tryz.underlying53 (by kernel_rfl) (qah (k:=1) qfz (by kernel_rfl) rfl (qah (k:=1) qfz (by kernel_rfl) rfl (qah (k:=1) qKz (by kernel_rfl) rfl qa7)))).map (fun x=>(x.1,x.2.1,x.2.2.1)) (fun _ _=>rfl) (fun _ h=>trivial) fun _ _=>by kernel_rfl
theorem qMi:Reads Tryz.prog 191 (fun x:Int×List Int=>x.2.length≤maxLen) encBlk:=
 (qaL Tryz.underlying191 (by kernel_rfl) (qah (k:=1) qfz (by kernel_rfl) rfl (qah (k:=1) qIc (by kernel_rfl) rfl qa7))).map (fun x=>(x.1,x.2.1)) (fun _ _=>rfl) (fun _ h=>h.2.1.1) fun _ _=>by kernel_rfl
theorem qMj:Reads Tryz.prog 91 (fun l:List (Int×List Int)=>l.length≤maxLen∧∀a∈l,a.2.length≤maxLen) (fun l=>[.sl (l.map encBlk)]):=qbe Tryz.underlying91 qMi (k:=2) (by kernel_rfl) (by decide) (by kernel_rfl)
theorem aPlan:ReadsA Tryz.prog [34,38,3] (fun x:Site×List Cut×Int=>Wide x.1∧x.2.1.length≤9223372036854775807∧I64 x.2.2)
  (fun x=>[.agg (encSite x.1),.sl (x.2.1.map encCut),.int .i64 x.2.2]):=
 (qbf Tryz.underlying34 qyO (g:=fun c=>.agg (encSite c)) (.inr ⟨rfl,fun _=>rfl⟩) (qbf Tryz.underlying38 qDP (g:=fun c=>.sl (c.map encCut)) (.inl ⟨rfl,fun _=>rfl⟩) (qbf Tryz.underlying3 qfz (g:=fun c=>.int .i64 c) (.inl ⟨rfl,fun _=>rfl⟩) qfk))).map
  (fun x=>(x.1,x.2.1,x.2.2.1)) (fun _ _=>rfl) (fun _ h=>⟨(h.1),(lm h.2.1.1),(h.2.2.1)⟩)
theorem aTimes:ReadsA Tryz.prog [34,38,53] (fun x:Site×List Cut×(Int×Int×Int)=>Wide x.1∧x.2.1.length≤9223372036854775807∧True)
  (fun x=>[.agg (encSite x.1),.sl (x.2.1.map encCut),.agg (encVio0 x.2.2)]):=
 (qbf Tryz.underlying34 qyO (g:=fun c=>.agg (encSite c)) (.inr ⟨rfl,fun _=>rfl⟩) (qbf Tryz.underlying38 qDP (g:=fun c=>.sl (c.map encCut)) (.inl ⟨rfl,fun _=>rfl⟩) (qbf Tryz.underlying53 qMh (g:=fun c=>.agg (encVio0 c)) (.inr ⟨rfl,fun _=>rfl⟩) qfk))).map
  (fun x=>(x.1,x.2.1,x.2.2.1)) (fun _ _=>rfl) (fun _ h=>⟨(h.1),(lm h.2.1.1),(trivial)⟩)
theorem aProofs:ReadsA Tryz.prog [34,38,91] (fun x:Site×List Cut×(List (Int×List Int))=>Wide x.1∧x.2.1.length≤9223372036854775807∧((x.2.2.length≤9223372036854775807∧∀b∈x.2.2,b.2.length≤9223372036854775807)))
  (fun x=>[.agg (encSite x.1),.sl (x.2.1.map encCut),.sl (x.2.2.map encBlk)]):=
 (qbf Tryz.underlying34 qyO (g:=fun c=>.agg (encSite c)) (.inr ⟨rfl,fun _=>rfl⟩) (qbf Tryz.underlying38 qDP (g:=fun c=>.sl (c.map encCut)) (.inl ⟨rfl,fun _=>rfl⟩) (qbf Tryz.underlying91 qMj (g:=fun c=>.sl (c.map encBlk)) (.inl ⟨rfl,fun _=>rfl⟩) qfk))).map
  (fun x=>(x.1,x.2.1,x.2.2.1)) (fun _ _=>rfl) (fun _ h=>⟨(h.1),(lm h.2.1.1),(⟨lm h.2.2.1.1,fun b hb=>lm (h.2.2.1.2 b hb)⟩)⟩)
theorem aCells:ReadsA Tryz.prog [34,9,3] (fun x:Site×ByteArray×Int=>Wide x.1∧True∧I64 x.2.2)
  (fun x=>[.agg (encSite x.1),.str x.2.1,.int .i64 x.2.2]):=
 (qbf Tryz.underlying34 qyO (g:=fun c=>.agg (encSite c)) (.inr ⟨rfl,fun _=>rfl⟩) (qbf Tryz.underlying9 qyN (g:=fun c=>.str c) (.inl ⟨rfl,fun _=>rfl⟩) (qbf Tryz.underlying3 qfz (g:=fun c=>.int .i64 c) (.inl ⟨rfl,fun _=>rfl⟩) qfk))).map
  (fun x=>(x.1,x.2.1,x.2.2.1)) (fun _ _=>rfl) (fun _ h=>⟨(h.1),(trivial),(h.2.2.1)⟩)
theorem aOne:ReadsA Tryz.prog [34,51] (fun x:Site×Cut=>Wide x.1∧True)
  (fun x=>[.agg (encSite x.1),.agg (encCut x.2)]):=
 (qbf Tryz.underlying34 qyO (g:=fun c=>.agg (encSite c)) (.inr ⟨rfl,fun _=>rfl⟩) (qbf Tryz.underlying51 qKA (g:=fun c=>.agg (encCut c)) (.inr ⟨rfl,fun _=>rfl⟩) qfk)).map
  (fun x=>(x.1,x.2.1)) (fun _ _=>rfl) (fun _ h=>⟨(h.1),(trivial)⟩)
end Go.Pv.Soil

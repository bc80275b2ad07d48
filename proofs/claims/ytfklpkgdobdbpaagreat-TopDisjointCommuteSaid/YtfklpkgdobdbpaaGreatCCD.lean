import Derived.Test.YtfklpkgdobdbpaaGreatCBZ
/- Part of the proofs over YtfklpkgdobdbpaaGreat: N78, N93. -/
set_option linter.unusedVariables false
set_option linter.unusedSimpArgs false
set_option linter.unnecessarySimpa false
open Go Go.Proofs Go.Pv
set_option maxHeartbeats 8000000
set_option maxRecDepth 100000
set_option linter.unusedSimpArgs false
set_option linter.unusedVariables false
namespace Go.Pv.Soil
theorem qKm{p:Nat→Bool}{r:Int}{l:List Nat}:qbI p r l=none↔∀i∈l,p i=false:=by
 unfold qbI
 rw[Option.map_eq_none_iff,List.find?_eq_none]
 exact⟨fun h i hi=>by simpa using h i hi,fun h i hi=>by rw[h i hi];simp⟩
theorem qLz{e:Nat→Int}{l:List Nat}:qfC e l=none↔∀i∈l,e i=0:=by
 unfold qfC
 rw[Option.map_eq_none_iff,List.find?_eq_none]
 exact⟨fun h i hi=>by simpa using h i hi,fun h i hi=>by rw[h i hi];simp⟩
theorem qKJ{low:List Nat}{l:List Steep}:qmh low l=none↔∀x∈l,qw8 low x=false:=by
 unfold qmh
 rw[Option.map_eq_none_iff,List.find?_eq_none]
 exact⟨fun h i hi=>by simpa using h i hi,fun h i hi=>by rw[h i hi];simp⟩
structure Passes(s:Site)(b:Grid)(c:Cut):Prop where
 form:qnh (dredOf s c.dredger) c=true
 unk:∀i∈qaH s c,qBi b i=false
 guard:∀i∈qaH s c,qf7 s i=false
 deep:∀i∈qcd s b c,qqf b c (dredOf s c.dredger) i=false
 lack:∀i∈qcd s b c,qni s b c i=false
 time:c.start+(qbR s b c).1-c.start≤3000∧c.start+(qbR s b c).1≤1000001
 reach:∀i∈qcd s b c,qcG s c (qqo s b c) i=0
 quay:∀i∈qcd s b c,qo1 s c i=false
 steep:∀x∈qcW s.ground (qeL s b c) (qeL s b c).levels.length,qw8 (qcd s b c) x=false
theorem qLk{p:Prop}[Decidable p]{x:Int×Int}:(if p then(none:Option (Int×Int))else some x)=none↔p:=by
 constructor
 ·intro h
  split at h
  ·assumption
  ·cases h
 ·intro h;exact if_pos h
theorem qKA{s:Site}{b:Grid}{c:Cut}:qiO s b c=none↔Passes s b c:=by
 unfold qiO qeD qhl
 rw[qwo,qwo,qwo,qwo,qwo,qwo,qwo,qwo,qLk,qLk,qKm,qKm,qKm,qKm,qLz,qKm,qKJ]
 exact⟨fun⟨⟨h1,h2,h3,h4,h5,h6⟩,h7,h8,h9⟩=>⟨h1,h2,h3,h4,h5,h6,h7,h8,h9⟩,fun h=>⟨⟨h.1,h.2,h.3,h.4,h.5,h.6⟩,h.7,h.8,h.9⟩⟩
theorem qKn{s:Site}{b:Grid}{c:Cut}{i:Nat}:i∈qcd s b c↔i∈qaH s c∧lv b.levels i≠30000∧c.level<lv b.levels i:=by
 unfold qcd qnD
 rw[List.mem_filter,decide_eq_true_eq]
theorem qKH{s:Site}{b:Grid}{c:Cut}{i:Nat}(h:i∈qcd s b c)(hi:i<b.levels.length):lv (qeL s b c).levels i=c.level:=by
 obtain⟨h1,h2,h3⟩:=qKn.1 h
 show lv (qgt b.levels (qaH s c) c.level) i=c.level
 rw[qdL hi,if_pos ⟨h1,h2⟩];omega
theorem qKY{s:Site}{b:Grid}{c:Cut}{i:Nat}(h:i∉qcd s b c)(hi:i<b.levels.length):lv (qeL s b c).levels i=lv b.levels i:=by
 show lv (qgt b.levels (qaH s c) c.level) i=lv b.levels i
 rw[qdL hi]
 split
 ·rename_i h'
  rw[qKn]at h
  have:¬c.level<lv b.levels i:=fun h3=>h ⟨h'.1,h'.2,h3⟩
  omega
 ·rfl
theorem qKo(g:Grid)(i k:Nat):qdr g i k=qdr g k i:=by
 unfold qdr
 rw[decide_eq_decide]
 omega
structure Near(s:Site)(c:Cut)(u v:Grid):Prop where
 su:qbX s.bed u=true
 sv:qbX s.bed v=true
 len:u.levels.length=v.levels.length
 at_:∀i∈qaH s c,lv u.levels i=lv v.levels i
 by_:∀i∈qaH s c,∀j,qdr s.bed i j=true→lv u.levels j=lv v.levels j
section
variable {s:Site}{c:Cut}{u v:Grid}
theorem Near.low(h:Near s c u v):qcd s u c=qcd s v c:=by
 unfold qcd qnD
 refine List.filter_congr fun i hi=>?_
 rw[h.at_ i hi]
theorem Near.at2(h:Near s c u v)(i:Nat)(e:lv u.levels i=lv v.levels i):lv (qeL s u c).levels i=lv (qeL s v c).levels i:=by
 show lv (qgt u.levels (qaH s c) c.level) i=lv (qgt v.levels (qaH s c) c.level) i
 by_cases hi:i<u.levels.length
 ·rw[qdL hi,qdL (by rw[←h.len];exact hi),e]
 ·rw[qrA (by rw[qaZ];omega),qrA (by rw[qaZ,←h.len];omega)]
theorem qLm{g:Ground}{m:Grid}{a:Nat}{j:Nat}{low:List Nat}(ha:inN low (a:Int)=false)(hj:inN low (j:Int)=false):(qcx g m a (j:Int)).find? (qw8 low)=none:=by
 rw[List.find?_eq_none]
 intro x hx
 unfold qcx at hx
 split at hx
 ·cases hx
 split at hx
 ·split at hx
  ·rw[List.mem_singleton]at hx
   subst hx
   unfold qw8
   simp only[ha,hj]
   simp
  ·cases hx
 ·split at hx
  ·rw[List.mem_singleton]at hx
   subst hx
   unfold qw8
   simp only[ha,hj]
   simp
  ·cases hx
theorem qKD{α β:Type}{f g:α→Option β}:∀{l:List α},(∀x∈l,f x=g x)→l.findSome? f=l.findSome? g
 |[],_=>rfl
 |a::l,h=>by
  rw[List.findSome?_cons,List.findSome?_cons,h a List.mem_cons_self,qKD fun x hx=>h x (List.mem_cons_of_mem _ hx)]
theorem qKv{l:List Nat}{i:Nat}:inN l (i:Int)=true↔i∈l:=by
 unfold inN
 rw[List.any_eq_true]
 constructor
 ·rintro⟨x,hx,h⟩
  have:(x:Int)=i:=by simpa[eq_comm]using h
  obtain rfl:x=i:=by omega
  exact hx
 ·intro h;exact⟨i,h,by simp⟩
theorem qK2{m m':Grid}(h:∀i k,qdr m i k=qdr m' i k)(i:Nat):∀n,qbo m i n=qbo m' i n
 |0=>rfl
 |n+1=>by simp only[qbo,qK2 h i n,h]
theorem qKr(h:qbX s.bed u=true)(i k:Nat):qdr u i k=qdr s.bed i k:=by
 unfold qdr
 rw[(qzH h).2.2.2.1]
theorem qKt(g:Ground)(h:qbX s.bed u=true)(a b:Nat):qbE g u a b=qbE g s.bed a b:=by
 unfold qbE qdu
 rw[qk5 h,qk5 h,(qzH h).2.2.1]
theorem Near.steep(h:Near s c u v)(g:Ground):qmh (qcd s u c) (qcW g (qeL s u c) (qeL s u c).levels.length)=qmh (qcd s v c) (qcW g (qeL s v c) (qeL s v c).levels.length):=by
 have hu:qbX s.bed (qeL s u c)=true:=h.su
 have hv:qbX s.bed (qeL s v c)=true:=h.sv
 have hn:(qeL s u c).levels.length=(qeL s v c).levels.length:=by
  show(qgt _ _ _).length=(qgt _ _ _).length
  rw[qaZ,qaZ,h.len]
 unfold qmh
 rw[h.low]
 congr 1
 unfold qcW qdE
 rw[List.find?_flatMap,List.find?_flatMap,hn]
 refine qKD fun a ha=>?_
 rw[List.find?_flatMap,List.find?_flatMap,qK2 (m:=qeL s u c) (m':=qeL s v c) fun i k=>by rw[qKr hu,qKr hv]]
 refine qKD fun b hb=>?_
 obtain⟨j,hj,rfl,hbe⟩:=(qeZ _ _ _ _).1 hb
 rw[qKr hv]at hbe
 cases h1:inN (qcd s v c) (a:Int)with
 |true=>
  have ma:=(qKn.1 (qKv.1 h1)).1
  have e1:=h.at2 a (h.at_ a ma)
  have e2:=h.at2 j (h.by_ a ma j hbe)
  congr 1
  unfold qcx
  simp only[Int.toNat_natCast,e1,e2,qKt g hu,qKt g hv]
 |false=>
  cases h2:inN (qcd s v c) (j:Int)with
  |true=>
   have mj:=(qKn.1 (qKv.1 h2)).1
   have e1:=h.at2 j (h.at_ j mj)
   have e2:=h.at2 a (h.by_ j mj a (by rw[qKo];exact hbe))
   congr 1
   unfold qcx
   simp only[Int.toNat_natCast,e1,e2,qKt g hu,qKt g hv]
  |false=>rw[qLm h1 h2,qLm h1 h2]
theorem qKO{g:Ground}(hg:OkG g){m a:Grid}{i:Nat}(h:lv a.levels i=lv m.levels i):qaT g m a (i+1)=qaT g m a i:=by
 simp only[qaT]
 split
 ·have:qco g m a i=[]:=by unfold qco;exact qvV hg (by omega)
  rw[this]
  rfl
 ·rfl
theorem Near.cells(h:Near s c u v){g:Ground}(hg:OkG g):∀i,i≤u.levels.length→qaT g u (qeL s u c) i=qaT g v (qeL s v c) i
 |0,_=>rfl
 |i+1,hi=>by
  have ih:=h.cells hg i (by omega)
  by_cases hl:i∈qcd s v c
  ·have e1:=h.at_ i (qKn.1 hl).1
   have e2:=h.at2 i e1
   simp only[qaT,ih,e1,e2,qco,qk5 h.su,qk5 h.sv,(qzH h.su).2.2.1,(qzH h.sv).2.2.1]
  ·rw[qKO hg (qKY (by rw[h.low];exact hl) (by omega)),qKO hg (qKY hl (by rw[←h.len];omega)),ih]
theorem Near.take(h:Near s c u v)(hg:OkG s.ground):qbb s u c=qbb s v c:=by
 unfold qbb
 rw[←h.len]
 exact h.cells hg _ (Nat.le_refl _)
theorem qKw{p q:Nat→Bool}{r:Int}{l:List Nat}(h:∀i∈l,p i=q i):qbI p r l=qbI q r l:=by
 unfold qbI
 rw[qiP h]
theorem Near.ref(h:Near s c u v)(hg:OkG s.ground):qiO s u c=qiO s v c:=by
 have e1:qbR s u c=qbR s v c:=by unfold qbR;rw[h.take hg]
 have e2:qqo s u c=qqo s v c:=by unfold qqo;rw[e1]
 unfold qiO qeD qhl
 rw[h.steep,h.low,e1,e2,qKw (p:=qBi u) (q:=qBi v) fun i hi=>by unfold qBi;rw[h.at_ i hi],qKw (p:=qqf u c (dredOf s c.dredger)) (q:=qqf v c (dredOf s c.dredger)) fun i hi=>by unfold qqf;rw[h.at_ i (qKn.1 hi).1],
  qKw (p:=qni s u c) (q:=qni s v c) fun i hi=>by unfold qni qd5;rw[h.at_ i (qKn.1 hi).1,qk5 h.su,qk5 h.sv]]
end
def qMk(s:Site)(a b:Cut):Prop:=∀i∈qaH s a,∀j∈qaH s b,i≠j∧qdr s.bed i j=false
theorem qLA{s:Site}{a b:Cut}{u:Grid}(hu:qbX s.bed u=true)(h:qMk s a b):Near s b (qeL s u a) u:=by
 have e:∀i,i∉qaH s a→lv (qeL s u a).levels i=lv u.levels i:=fun i hi=>by
  show lv (qgt u.levels (qaH s a) a.level) i=_
  by_cases hl:i<u.levels.length
  ·rw[qdL hl,if_neg fun hh=>hi hh.1]
  ·rw[qrA (by rw[qaZ];omega),qrA (by omega)]
 refine⟨hu,hu,qaZ _ _ _,fun i hi=>e i fun ha=>(h i ha i hi).1 rfl,fun i hi j hb=>e j fun ha=>?_⟩
 have:=(h j ha i hi).2
 rw[qKo,hb]at this
 cases this
end Go.Pv.Soil

import Derived.Test.YtfklpkgdobdbpaaGreatCCB
/- Part of the proofs over YtfklpkgdobdbpaaGreat: N93, N94, N90. -/
set_option linter.unusedVariables false
set_option linter.unusedSimpArgs false
set_option linter.unnecessarySimpa false
open Go Go.Proofs Go.Pv
set_option maxHeartbeats 8000000
set_option maxRecDepth 100000
set_option linter.unusedSimpArgs false
set_option linter.unusedVariables false
namespace Go.Pv.Soil
theorem qeN(g:Grid)(i k:Nat):qbl g i k=qbl g k i:=by
 unfold qbl
 rw[decide_eq_decide]
 omega
structure Near(s:Site)(c:Cut)(u v:Grid):Prop where
 su:qbR s.bed u=true
 sv:qbR s.bed v=true
 len:u.levels.length=v.levels.length
 at_:∀i∈qaD s c,lv u.levels i=lv v.levels i
 by_:∀i∈qaD s c,∀j,qbl s.bed i j=true→lv u.levels j=lv v.levels j
section
variable {s:Site}{c:Cut}{u v:Grid}
theorem Near.low(h:Near s c u v):qbB s u c=qbB s v c:=by
 unfold qbB qnf
 refine List.filter_congr fun i hi=>?_
 rw[h.at_ i hi]
theorem Near.at2(h:Near s c u v)(i:Nat)(e:lv u.levels i=lv v.levels i):lv (qcu s u c).levels i=lv (qcu s v c).levels i:=by
 show lv (qfq u.levels (qaD s c) c.level) i=lv (qfq v.levels (qaD s c) c.level) i
 by_cases hi:i<u.levels.length
 ·rw[qcM hi,qcM (by rw[←h.len];exact hi),e]
 ·rw[qs2 (by rw[qaM];omega),qs2 (by rw[qaM,←h.len];omega)]
theorem qtT{g:Ground}{m:Grid}{a:Nat}{j:Nat}{low:List Nat}(ha:inN low (a:Int)=false)(hj:inN low (j:Int)=false):(qbx g m a (j:Int)).find? (qp7 low)=none:=by
 rw[List.find?_eq_none]
 intro x hx
 unfold qbx at hx
 split at hx
 ·cases hx
 split at hx
 ·split at hx
  ·rw[List.mem_singleton]at hx
   subst hx
   unfold qp7
   simp only[ha,hj]
   simp
  ·cases hx
 ·split at hx
  ·rw[List.mem_singleton]at hx
   subst hx
   unfold qp7
   simp only[ha,hj]
   simp
  ·cases hx
theorem qjw{α β:Type}{f g:α→Option β}:∀{l:List α},(∀x∈l,f x=g x)→l.findSome? f=l.findSome? g
 |[],_=>rfl
 |a::l,h=>by
  rw[List.findSome?_cons,List.findSome?_cons,h a List.mem_cons_self,qjw fun x hx=>h x (List.mem_cons_of_mem _ hx)]
theorem qhN{l:List Nat}{i:Nat}:inN l (i:Int)=true↔i∈l:=by
 unfold inN
 rw[List.any_eq_true]
 constructor
 ·rintro⟨x,hx,h⟩
  have:(x:Int)=i:=by simpa[eq_comm]using h
  obtain rfl:x=i:=by omega
  exact hx
 ·intro h;exact⟨i,h,by simp⟩
theorem qqz{m m':Grid}(h:∀i k,qbl m i k=qbl m' i k)(i:Nat):∀n,qbi m i n=qbi m' i n
 |0=>rfl
 |n+1=>by simp only[qbi,qqz h i n,h]
theorem qgH(h:qbR s.bed u=true)(i k:Nat):qbl u i k=qbl s.bed i k:=by
 unfold qbl
 rw[(qnl h).2.2.2.1]
theorem qg1(g:Ground)(h:qbR s.bed u=true)(a b:Nat):qba g u a b=qba g s.bed a b:=by
 unfold qba qdq
 rw[qeK h,qeK h,(qnl h).2.2.1]
theorem Near.steep(h:Near s c u v)(g:Ground):qgB (qbB s u c) (qbI g (qcu s u c) (qcu s u c).levels.length)=qgB (qbB s v c) (qbI g (qcu s v c) (qcu s v c).levels.length):=by
 have hu:qbR s.bed (qcu s u c)=true:=h.su
 have hv:qbR s.bed (qcu s v c)=true:=h.sv
 have hn:(qcu s u c).levels.length=(qcu s v c).levels.length:=by
  show(qfq _ _ _).length=(qfq _ _ _).length
  rw[qaM,qaM,h.len]
 unfold qgB
 rw[h.low]
 congr 1
 unfold qbI qc0
 rw[List.find?_flatMap,List.find?_flatMap,hn]
 refine qjw fun a ha=>?_
 rw[List.find?_flatMap,List.find?_flatMap,qqz (m:=qcu s u c) (m':=qcu s v c) fun i k=>by rw[qgH hu,qgH hv]]
 refine qjw fun b hb=>?_
 obtain⟨j,hj,rfl,hbe⟩:=(qcW _ _ _ _).1 hb
 rw[qgH hv]at hbe
 cases h1:inN (qbB s v c) (a:Int)with
 |true=>
  have ma:=(qff.1 (qhN.1 h1)).1
  have e1:=h.at2 a (h.at_ a ma)
  have e2:=h.at2 j (h.by_ a ma j hbe)
  congr 1
  unfold qbx
  simp only[Int.toNat_natCast,e1,e2,qg1 g hu,qg1 g hv]
 |false=>
  cases h2:inN (qbB s v c) (j:Int)with
  |true=>
   have mj:=(qff.1 (qhN.1 h2)).1
   have e1:=h.at2 j (h.at_ j mj)
   have e2:=h.at2 a (h.by_ j mj a (by rw[qeN];exact hbe))
   congr 1
   unfold qbx
   simp only[Int.toNat_natCast,e1,e2,qg1 g hu,qg1 g hv]
  |false=>rw[qtT h1 h2,qtT h1 h2]
theorem qns{g:Ground}(hg:OkG g){m a:Grid}{i:Nat}(h:lv a.levels i=lv m.levels i):qaN g m a (i+1)=qaN g m a i:=by
 simp only[qaN]
 split
 ·have:qcl g m a i=[]:=by unfold qcl;exact qro hg (by omega)
  rw[this]
  rfl
 ·rfl
theorem Near.cells(h:Near s c u v){g:Ground}(hg:OkG g):∀i,i≤u.levels.length→qaN g u (qcu s u c) i=qaN g v (qcu s v c) i
 |0,_=>rfl
 |i+1,hi=>by
  have ih:=h.cells hg i (by omega)
  by_cases hl:i∈qbB s v c
  ·have e1:=h.at_ i (qff.1 hl).1
   have e2:=h.at2 i e1
   simp only[qaN,ih,e1,e2,qcl,qeK h.su,qeK h.sv,(qnl h.su).2.2.1,(qnl h.sv).2.2.1]
  ·rw[qns hg (qrN (by rw[h.low];exact hl) (by omega)),qns hg (qrN hl (by rw[←h.len];omega)),ih]
theorem Near.take(h:Near s c u v)(hg:OkG s.ground):qbk s u c=qbk s v c:=by
 unfold qbk
 rw[←h.len]
 exact h.cells hg _ (Nat.le_refl _)
end
theorem qma{g:Ground}{m:Grid}{n:Nat}{x:Steep}:x∈qbI g m n↔∃a j:Nat,a<n∧j<m.levels.length∧qbl m a j=true∧x∈qbx g m a (j:Int):=by
 unfold qbI qc0
 rw[List.mem_flatMap]
 constructor
 ·rintro⟨a,ha,h⟩
  obtain⟨b,hb,h⟩:=List.mem_flatMap.1 h
  obtain⟨j,hj,rfl,hbe⟩:=(qcW _ _ _ _).1 hb
  exact⟨a,j,List.mem_range.1 ha,hj,hbe,h⟩
 ·rintro⟨a,j,ha,hj,hbe,h⟩
  exact⟨a,List.mem_range.2 ha,List.mem_flatMap.2 ⟨j,(qcW _ _ _ _).2 ⟨j,hj,rfl,hbe⟩,h⟩⟩
theorem qvx{g:Ground}{m:Grid}{a j:Nat}{x:Steep}(h:x∈qbx g m a (j:Int)):lv m.levels a≠30000∧lv m.levels j≠30000∧((x.high=a∧x.low=j∧qba g m a j<lv m.levels a-lv m.levels j)∨(x.high=j∧x.low=a∧qba g m a j<lv m.levels j-lv m.levels a)):=by
 unfold qbx at h
 try simp only[Int.toNat_natCast]at h
 split at h
 ·cases h
 rename_i h0
 refine⟨fun hh=>h0 (.inr (.inl hh)),fun hh=>h0 (.inr (.inr hh)),?_⟩
 split at h
 ·split at h
  ·rw[List.mem_singleton]at h
   subst h
   exact .inr ⟨rfl,rfl,by omega⟩
  ·cases h
 ·split at h
  ·rw[List.mem_singleton]at h
   subst h
   exact .inl ⟨rfl,rfl,by omega⟩
  ·cases h
theorem qnt{g:Ground}(hg:OkG g){m:Grid}(hm:OkGrid m){a j:Nat}(ha:a<m.levels.length)(hj:j<m.levels.length)(hb:qbl m a j=true)(h1:lv m.levels a≠30000)(h2:lv m.levels j≠30000)(h:qba g m a j<lv m.levels a-lv m.levels j):
  ∃x∈qbI g m m.levels.length,x.high=a∧x.low=j:=by
 have h3:=qfr hg hm a j
 by_cases hl:a≤j
 ·refine⟨⟨a,j,lv m.levels a-lv m.levels j-qba g m a j⟩,qma.2 ⟨a,j,ha,hj,hb,?_⟩,rfl,rfl⟩
  unfold qbx
  simp only[Int.toNat_natCast]
  rw[if_neg (by omega),if_neg (by omega),if_pos (by omega)]
  exact List.mem_singleton.2 rfl
 ·have hc:=qfT g m a j
  refine⟨⟨a,j,lv m.levels a-lv m.levels j-qba g m j a⟩,qma.2 ⟨j,a,hj,ha,by rw[qeN];exact hb,?_⟩,rfl,rfl⟩
  unfold qbx
  simp only[Int.toNat_natCast]
  rw[if_neg (by omega),if_pos (by omega),if_pos (by omega)]
  exact List.mem_singleton.2 rfl
theorem qtU{s:Site}{i:Nat}{N:List Int}{a v:Int}(ha:a≤v)(h:∀x∈N,lv s.bed.levels x.toNat≠30000→lv s.bed.levels x.toNat-qba s.ground s.bed i x.toNat≤v):∀j,j≤N.length→qlY s i N a j≤v
 |0,_=>ha
 |j+1,hj=>by
  have ih:=qtU ha h j (by omega)
  have hj':j<N.length:=by omega
  rw[qfw hj']
  unfold qrI
  split
  ·exact ih
  ·have:=h _ (List.getElem_mem hj') (by assumption)
   omega
theorem qtV{s:Site}{i:Nat}{N:List Int}{a:Int}:∀j,j≤N.length→a≤qlY s i N a j∧∀k (hk:k<N.length),k<j→lv s.bed.levels N[k].toNat≠30000→lv s.bed.levels N[k].toNat-qba s.ground s.bed i N[k].toNat≤qlY s i N a j
 |0,_=>⟨Int.le_refl _,fun k hk h=>by omega⟩
 |j+1,hj=>by
  obtain⟨ih1,ih2⟩:=qtV (s:=s) (i:=i) (N:=N) (a:=a) j (by omega)
  have hj':j<N.length:=by omega
  rw[qfw hj']
  unfold qrI
  split
  ·rename_i h0
   refine⟨ih1,fun k hk hkj hkn=>?_⟩
   rcases Nat.lt_succ_iff_lt_or_eq.1 hkj with h'|rfl
   ·exact ih2 k hk h' hkn
   ·exact absurd h0 hkn
  ·refine⟨by omega,fun k hk hkj hkn=>?_⟩
   rcases Nat.lt_succ_iff_lt_or_eq.1 hkj with h'|rfl
   ·have:=ih2 k hk h' hkn
    omega
   ·omega
theorem qAP(s:Site)(i:Nat):qee s i≤lv s.bed.levels i:=by
 unfold qee
 split
 ·exact Int.le_refl _
 ·omega
theorem qiP{p:Nat→Bool}{r:Int}{l:List Nat}{x:Int×Int}(h:findR p r l=some x):x.1=r:=by
 unfold findR at h
 obtain⟨i,_,rfl⟩:=Option.map_eq_some_iff.1 h
 rfl
theorem qvy{s:Site}{c:Cut}{n:Nat}{l:List Nat}{x:Int×Int}(h:qeR (qca s c n) l=some x):x.1=16∨x.1=11:=by
 unfold qeR at h
 obtain⟨i,hi,rfl⟩:=Option.map_eq_some_iff.1 h
 have:=List.find?_some hi
 simp only[decide_eq_true_eq]at this
 show qca s c n i=16∨qca s c n i=11
 unfold qca at this ⊢
 split at this
 ·rename_i h1
  rw[if_pos h1]
  split at this
  ·exact absurd rfl this
  ·rename_i h2;rw[if_neg h2];exact .inl rfl
 ·rename_i h1;rw[if_neg h1];exact .inr rfl
theorem qtW{p:Prop}[Decidable p]{r v:Int}{x:Int×Int}(h:(if p then(none:Option (Int×Int))else some (r,v))=some x):x.1=r:=by
 split at h
 ·cases h
 ·injection h with h;rw[←h]
theorem qyW{s:Site}{b:Grid}{c:Cut}{x:Int×Int}(h:qfg s b c=some x)(hr:x.1=15∨x.1=14):(∀i∈qaD s c,qd2 s i=false)∧qeL s c (qbB s b c) (qcu s b c)=some x:=by
 unfold qfg qed at h
 rcases Option.or_eq_some_iff.1 h with h|⟨h0,h⟩
 ·exfalso
  rcases Option.or_eq_some_iff.1 h with h|⟨_,h⟩
  ·have:=qtW h;omega
  rcases Option.or_eq_some_iff.1 h with h|⟨_,h⟩
  ·have:=qiP h;omega
  rcases Option.or_eq_some_iff.1 h with h|⟨_,h⟩
  ·have:=qiP h;omega
  rcases Option.or_eq_some_iff.1 h with h|⟨_,h⟩
  ·have:=qiP h;omega
  rcases Option.or_eq_some_iff.1 h with h|⟨_,h⟩
  ·have:=qiP h;omega
  ·have:=qtW h;omega
 rw[qcI,qcI,qcI,qcI,qcI]at h0
 rcases Option.or_eq_some_iff.1 h with h|⟨_,h⟩
 ·exfalso
  have:=qvy h
  omega
 ·exact⟨qdO.1 h0.2.2.1,h⟩
section
variable {s:Site}{c:Cut}{i:Nat}(hs:OkSite s)(hc:OkCut s c)(hf:qaD s c=[i])(hi:i<s.bed.levels.length)
include hs hc hf hi
theorem qAQ(hu:lv s.bed.levels i≠30000)(hl:c.level<lv s.bed.levels i):i∈qbB s s.bed c:=by
 have _:=hs
 have _:=hc
 have _:=hi
 exact qff.2 ⟨by rw[hf];simp,hu,hl⟩
theorem qhO{k:Nat}(hk:k<s.bed.levels.length)(hne:k≠i):lv (qcu s s.bed c).levels k=lv s.bed.levels k:=by
 have _:=hs
 have _:=hc
 have _:=hi
 exact qrN (fun hh=>hne (by have:=(qff.1 hh).1;rw[hf]at this;simpa using this)) hk
theorem qyX(hp:Passes s s.bed c)(hu:lv s.bed.levels i≠30000)(hl:c.level<lv s.bed.levels i)(hlv: -20000≤c.level):qee s i≤c.level:=by
 have hin:=qAQ hs hc hf hi hu hl
 have hg:qd2 s i=false:=hp.guard i (by rw[hf];simp)
 have hb:=qfW s hs
 have hlow:OkBed s (qcu s s.bed c):=qeH hs.bed hb hc
 have e1:=qoE hin hi
 have hlen:(qcu s s.bed c).levels.length=s.bed.levels.length:=qaM _ _ _
 unfold qee
 rw[if_neg (by rw[hg];simp)]
 have:qlY s i (qbi s.bed i s.bed.levels.length) (qjS s i) (qbi s.bed i s.bed.levels.length).length≤c.level:=by
  refine qtU ?_ (fun x hx hkn=>?_) _ (Nat.le_refl _)
  ·have hq:=hp.quay i hin
   unfold qlQ at hq
   unfold qjS
   split
   ·rename_i h2
    rw[h2,Bool.true_and,decide_eq_false_iff_not]at hq
    omega
   ·exact hlv
  ·obtain⟨k,rfl,hk,hbe⟩:=qrJ hx
   rw[Int.toNat_natCast]at hkn ⊢
   refine Int.not_lt.1 fun hlt=>?_
   have hne:k≠i:=by rintro rfl;unfold qbl at hbe;simp at hbe
   have e2:=qhO hs hc hf hi hk hne
   have hal:=qg1 (u:=qcu s s.bed c) s.ground hlow.al k i
   obtain⟨x,hx2,h3,h4⟩:=qnt (okG hs.gr) hlow.ok (a:=k) (j:=i) (by rw[hlen];exact hk) (by rw[hlen];exact hi) (by rw[qgH hlow.al,qeN];exact hbe) (by rw[e2];exact hkn) (by rw[e1];have:=qjP hs.bed hi;omega) (by rw[e1,e2,hal,qfT];omega)
   have:=hp.steep x hx2
   unfold qp7 at this
   rw[h4,qhN.2 hin]at this
   simp at this
 omega
theorem qvz(hst:qbI s.ground s.bed s.bed.levels.length=[])(hg:qd2 s i=false)(hge:qee s i≤c.level):qeL s c (qbB s s.bed c) (qcu s s.bed c)=none:=by
 have hb:=qfW s hs
 have hlow:OkBed s (qcu s s.bed c):=qeH hs.bed hb hc
 have hlen:(qcu s s.bed c).levels.length=s.bed.levels.length:=qaM _ _ _
 unfold qeL
 rw[qcI,qdO,ql9]
 unfold qee at hge
 rw[if_neg (by rw[hg];simp)]at hge
 have hM:=qtV (s:=s) (i:=i) (N:=qbi s.bed i s.bed.levels.length) (a:=qjS s i) _ (Nat.le_refl _)
 constructor
 ·intro j hj
  obtain⟨h1,h2,h3⟩:=qff.1 hj
  rw[hf,List.mem_singleton]at h1
  subst h1
  have h4:=hM.1
  have h5:qjS s j=if(qtl s j).2=true then max (-20000) (qtl s j).1 else -20000:=rfl
  unfold qlQ
  cases hq:(qtl s j).2 with
  |false=>rfl
  |true=>
   rw[if_pos hq]at h5
   rw[Bool.true_and,decide_eq_false_iff_not]
   omega
 ·intro x hx
  rw[Bool.eq_false_iff]
  intro hh
  obtain⟨a,j,ha,hj,hbe,hx⟩:=qma.1 hx
  rw[hlen]at ha hj
  rw[qgH hlow.al]at hbe
  obtain⟨hka,hkj,hcase⟩:=qvx hx
  rw[qg1 s.ground hlow.al]at hcase
  have key:∀p q:Nat,p<s.bed.levels.length→q<s.bed.levels.length→qbl s.bed p q=true→lv (qcu s s.bed c).levels p≠30000→lv (qcu s s.bed c).levels q≠30000→qba s.ground s.bed p q<lv (qcu s s.bed c).levels p-lv (qcu s s.bed c).levels q→
    (p∈qbB s s.bed c∨q∈qbB s s.bed c)→False:=by
   intro p q hp hq hpq hkp hkq hal hin
   have hne:p≠q:=by rintro rfl;unfold qbl at hpq;simp at hpq
   rcases hin with hin|hin
   ·obtain⟨h1,h2,h3⟩:=qff.1 hin
    rw[hf,List.mem_singleton]at h1
    subst h1
    have e1:=qoE hin hp
    have e2:=qhO hs hc hf hi hq (fun e=>hne e.symm)
    rw[e2]at hkq
    rw[e1,e2]at hal
    obtain⟨y,hy,_⟩:=qnt (okG hs.gr) hs.bed hp hq hpq h2 hkq (by omega)
    rw[hst]at hy
    cases hy
   ·obtain⟨h1,h2,h3⟩:=qff.1 hin
    rw[hf,List.mem_singleton]at h1
    subst h1
    have e1:=qoE hin hq
    have e2:=qhO hs hc hf hi hp hne
    rw[e2]at hkp
    rw[e1,e2]at hal
    have hmem:(p:Int)∈qbi s.bed q s.bed.levels.length:=(qcW _ _ _ _).2 ⟨p,hp,rfl,by rw[qeN];exact hpq⟩
    obtain⟨k,hk,ek⟩:=List.mem_iff_getElem.1 hmem
    have h5:=hM.2 k hk hk
    rw[ek,Int.toNat_natCast]at h5
    have h6:=h5 hkp
    rw[qfT]at h6
    omega
  unfold qp7 at hh
  rw[Bool.or_eq_true]at hh
  rcases hcase with⟨h1,h2,h3⟩|⟨h1,h2,h3⟩
  ·rw[h1,h2,qhN,qhN]at hh
   exact key a j ha hj hbe hka hkj h3 hh
  ·rw[h1,h2,qhN,qhN]at hh
   exact key j a hj ha (by rw[qeN];exact hbe) hkj hka (by rw[qfT];exact h3) hh
end
def qhP(c:Cut):Cut:=⟨c.name,c.dredger,c.col,c.row,1,1,c.level,c.start⟩
theorem qAT{s:Site}{c:Cut}(h1:c.cols=1)(h2:c.rows=1):∃i,qaD s c=[i]:=by
 unfold qaD
 rw[h1,h2]
 exact⟨_,rfl⟩
theorem qy1(s:Site)(c:Cut):qbb s [c] 1=(qfg s s.bed c).map fun v=>(0,v.1,v.2):=by
 have e:qvi s [c] 0=qfg s s.bed c:=by
  rw[qjq (show 0<[c].length by simp),if_neg (by omega),if_neg (by simp[crossE])]
  rfl
 rw[qbb,qbb,e]
 rfl
theorem law_greatest(s:Site)(hw:Wide s)(c':Cut):Contract Tryz.prog 17 [.agg (encSite s),.agg (encCut c')] (.ret (.bool true)):=by
 have h0:=qy0
 have h2:Contract Tryz.prog 21 [.sl [encCut (qhP c')],.int .i64 1] (.ret (.bool (qvG [qhP c'] 1))):=qAN [qhP c'] (by simp) 1 (by omega)
 have hlv:=hw.lv
 by_cases h100:s.bed.levels.length≤100
 rotate_left
 ·refine zT mix Tryz.func17 Tryz.ntmps17 Tryz.results17 rfl rfl rfl ?_;simp only[qab,Nat.reduceAdd]
  repeat'(first|((with_reducible apply qae);(exact qbT rfl (by simp) rfl);(exact h2);rfl)|(with_reducible rfl)|refine zQ ?_|refine zF h0 ?_|(refine zG ?_ ?_<;>first|intro h|simp)|refine zE ?_|fail)
  all_goals first|rfl|(exfalso;omega)|(exfalso;simp at *;done)|trace_state
 cases hf:qvG [qhP c'] 1 with
 |false=>
  rw[hf]at h2
  refine zT mix Tryz.func17 Tryz.ntmps17 Tryz.results17 rfl rfl rfl ?_;simp only[qab,Nat.reduceAdd]
  repeat'(first|((with_reducible apply qae);(exact qbT rfl (by simp) rfl);(exact h2);rfl)|(with_reducible rfl)|refine zQ ?_|refine zF h0 ?_|(refine zG ?_ ?_<;>first|intro h|simp)|refine zE ?_|fail)
  all_goals first|rfl|(exfalso;omega)|(exfalso;simp at *;done)|trace_state
 |true=>
 rw[hf]at h2
 by_cases hg:FitS s
 rotate_left
 ·obtain⟨e,he,h3⟩:=qDU s hw h100 hg [qhP c'] (by simp)
  refine zT mix Tryz.func17 Tryz.ntmps17 Tryz.results17 rfl rfl rfl ?_;simp only[qab,Nat.reduceAdd]
  repeat'(first|((with_reducible (show qap _ (.call _) _ _ _ _));first|((with_reducible apply qae);(exact qbT rfl (by simp) rfl);(exact h2);rfl)|((with_reducible apply qaj);(exact qek rfl rfl (by simp) rfl);(exact h3);rfl))|(with_reducible rfl)|refine zQ ?_|refine zF h0 ?_|(refine zC ?_ ?_<;>first|intro h|simp)|(refine zG ?_ ?_<;>first|intro h|simp)|refine zE ?_|fail)
  all_goals first|rfl|(exfalso;omega)|(exfalso;simp at *;done)|trace_state
 have hz:=hg.z
 have a1:=qfS s hz [qhP c'] (by simp) hg.d
 by_cases hall:qcy s [qhP c']=0
 rotate_left
 ·generalize qcy s [qhP c']=q at*
  refine zT mix Tryz.func17 Tryz.ntmps17 Tryz.results17 rfl rfl rfl ?_;simp only[qab,Nat.reduceAdd]
  repeat'(first|((with_reducible (show qap _ (.call _) _ _ _ _));first|((with_reducible apply qae);(exact qbT rfl (by simp) rfl);(exact h2);rfl)|((with_reducible apply qaj);(exact qek rfl rfl (by simp) rfl);(exact a1);rfl))|(with_reducible rfl)|refine zQ ?_|refine zF h0 ?_|(refine zC ?_ ?_<;>first|intro h|simp)|(refine zG ?_ ?_<;>first|intro h|simp)|refine zE ?_|fail)
  all_goals first|rfl|(exfalso;omega)|(exfalso;simp at *;done)|trace_state
 rw[hall]at a1
 obtain⟨hls,hlc⟩:=qd7 hall
 have ok:=(qcw hall).1
 have hc:OkCut s (qhP c'):=hlc 0 (by simp)
 have hbed:=qfW s ok
 have hon:=qIo hall hbed
 obtain⟨i,hfi⟩:=qAT (s:=s) (c:=qhP c') rfl rfl
 obtain⟨_,hfl,_,_⟩:=qbm ok.bed hc
 have hi:i<s.bed.levels.length:=hfl i (by rw[hfi];simp)
 have a3:=qdL s ok.bed (qhP c') hc
 obtain⟨XS,hXS⟩:∃X:List Nat,qaD s (qhP c')=X:=⟨_,rfl⟩
 rw[hXS]at a3
 have hXl:XS.length=1:=by rw[←hXS,hfi];rfl
 have hX0:∀h:Int.toNat 0<XS.length,XS[Int.toNat 0]'h=i:=fun h=>by
  have e:XS=[i]:=hXS.symm.trans hfi
  subst e
  rfl
 have a4:=qnn s hz (i:Int)
 have a5:=qlT s hz hg.d s.bed h100 (qhP c')
 rw[show qD8 s s.bed (qhP c')=qfg s s.bed (qhP c')from if_pos hon,hon]at a5
 have hsite:qda s=0:=by
  unfold qcy at hall
  split at hall
  ·contradiction
  ·rename_i h';exact Classical.not_not.1 h'
 have hil:((i:Nat):Int)<s.bed.levels.length:=by omega
 by_cases hu:lv s.bed.levels i=30000
 ·have e4:qdf s (i:Int)=(0,12):=by unfold qdf;rw[if_neg (not_not_intro hsite),if_neg (not_not_intro ⟨by omega,hil⟩),Int.toNat_natCast,if_pos hu]
  rw[e4]at a4
  have e5:(qfg s s.bed (qhP c')).isSome=true:=by
   cases hr:qfg s s.bed (qhP c')with
   |some v=>rfl
   |none=>
    have:=(qtS.1 hr).unk i (by rw[hfi];simp)
    unfold qAi at this
    rw[decide_eq_false_iff_not]at this
    exact absurd hu this
  rw[e5]at a5
  obtain⟨x,y,z,hv⟩:=qvr (qfg s s.bed (qhP c'))
  rw[hv]at a5
  refine zT mix Tryz.func17 Tryz.ntmps17 Tryz.results17 rfl rfl rfl ?_;simp only[qab,Nat.reduceAdd]
  repeat'(first|((with_reducible (show qap _ (.call _) _ _ _ _));first|((with_reducible apply qae);(exact qbT rfl (by simp) rfl);(exact h2);rfl)|((with_reducible apply qaj);(exact qek rfl rfl (by simp) rfl);(exact a1);rfl))|refine zQ ?_|refine zF h0 ?_|refine zF a3 ?_|(refine zI ?_;intro hlt)|(refine zG ?_ ?_<;>first|intro h|simp)|fail)
  all_goals try(exfalso;simp at *;done)
  simp only[hX0]
  repeat'(first|(with_reducible rfl)|refine zQ ?_|refine zF a4 ?_|refine zF a5 ?_|refine zE ?_|fail)
  all_goals first|rfl|(exfalso;omega)|(exfalso;simp at *;done)|trace_state
 ·have e4:qdf s (i:Int)=(qee s i,0):=by unfold qdf;rw[if_neg (not_not_intro hsite),if_neg (not_not_intro ⟨by omega,hil⟩),Int.toNat_natCast,if_neg hu]
  rw[e4]at a4
  have hgl:=qAP s i
  have hlv1:lv s.bed.levels i=s.bed.levels[i]:=qbv hi
  have a6:=qq8 qlR (c59 s.ground (okG ok.gr) hz.so s.bed ok.bed)
  have a7:=qos s hz hg.d h100 [qhP c'] (by simp)
  have e7:qgF s [qhP c']=(qfg s s.bed (qhP c')).map fun v=>(0,v.1,v.2):=by unfold qgF;rw[if_pos hall];exact qy1 s _
  rw[e7,hall]at a7
  have hfree:=fun hst hgd hge=>qvz (s:=s) (c:=qhP c') (i:=i) ok hc hfi hi hst hgd hge
  have hacc:=fun hp hl=>qyX (s:=s) (c:=qhP c') (i:=i) ok hc hfi hi hp hu hl hc.lvl.1
  have hslope:=fun x hx hr=>qyW (s:=s) (b:=s.bed) (c:=qhP c') (x:=x) hx hr
  have hvz:=fun(r k:Int) (hv:qfg s s.bed (qhP c')=some (r,k))=>(show Contract Tryz.prog 72 [.agg (encSite s),.sl [encCut (qhP c')],.agg [.int .i64 0,.int .i64 k,.int .i64 r]] (.ret (.int .i64 0))by
   have:=qf6 s hz hg.d h100 [qhP c'] (by simp) 0 k r
   have e:qvF s [qhP c'] 0 k r=0:=by
    unfold qvF
    rw[if_neg (not_not_intro hall),if_pos]
    exact⟨0,r,k,by rw[show [qhP c'].length=1 from rfl,qy1,hv];rfl,rfl,rfl,rfl⟩
   rw[e]at this
   exact this)
  cases hr:qfg s s.bed (qhP c')with
  |none=>
   have hac:=hacc (qtS.1 hr)
   rw[hr]at a5 a7
   have hcl:(qhP c').level=c'.level:=rfl
   rw[hcl]at hac
   rw[hlv1]at hac hgl
   generalize qee s i=G at*
   generalize qbI s.ground s.bed s.bed.levels.length=ST at*
   refine zT mix Tryz.func17 Tryz.ntmps17 Tryz.results17 rfl rfl rfl ?_;simp only[qab,Nat.reduceAdd]
   repeat'(first|((with_reducible (show qap _ (.call _) _ _ _ _));first|((with_reducible apply qae);(exact qbT rfl (by simp) rfl);(exact h2);rfl)|((with_reducible apply qaj);(exact qek rfl rfl (by simp) rfl);(exact a1);rfl))|refine zQ ?_|refine zF h0 ?_|refine zF a3 ?_|(refine zI ?_;intro hlt)|(refine zG ?_ ?_<;>first|intro h|simp)|fail)
   all_goals try(exfalso;simp at *;done)
   simp only[hX0]
   repeat'(first|((with_reducible apply qbF);(exact qek rfl rfl (by simp) rfl);(exact a7);rfl;(exact zL rfl);rfl)|(with_reducible rfl)|refine zQ ?_|refine zF a4 ?_|refine zF a5 ?_|refine zF a6 ?_|(refine zI ?_;intro hlt)|(refine zC ?_ ?_<;>first|intro h|simp)|(refine zG ?_ ?_<;>first|intro h|simp)|((with_reducible apply qaz);rfl;rfl)|refine zE ?_|fail)
   all_goals first|rfl|(simp;done)|(exfalso;omega)|(exfalso;simp at *;done)|(exfalso;have:=hac (by assumption);omega)|trace_state
  |some v=>
   obtain⟨r,k⟩:=v
   have hcz:=hvz r k hr
   have hno:qbI s.ground s.bed s.bed.levels.length=[]→qee s i≤c'.level→(r=15∨r=14)→False:=fun hst hge hrr=>by
    obtain⟨g1,g2⟩:=hslope (r,k) hr hrr
    have:=hfree hst (g1 i (by rw[hfi];simp)) hge
    rw[this]at g2
    cases g2
   rw[hr]at a5 a7
   rw[hlv1]at hgl
   generalize qee s i=G at*
   generalize qbI s.ground s.bed s.bed.levels.length=ST at*
   have hST:(ST.length:Int)=0→G≤c'.level→(r=15∨r=14)→False:=fun h=>hno (List.length_eq_zero_iff.1 (by omega))
   refine zT mix Tryz.func17 Tryz.ntmps17 Tryz.results17 rfl rfl rfl ?_;simp only[qab,Nat.reduceAdd]
   repeat'(first|((with_reducible (show qap _ (.call _) _ _ _ _));first|((with_reducible apply qae);(exact qbT rfl (by simp) rfl);(exact h2);rfl)|((with_reducible apply qaj);(exact qek rfl rfl (by simp) rfl);(exact a1);rfl))|refine zQ ?_|refine zF h0 ?_|refine zF a3 ?_|(refine zI ?_;intro hlt)|(refine zG ?_ ?_<;>first|intro h|simp)|fail)
   all_goals try(exfalso;simp at *;done)
   simp only[hX0]
   repeat'(first|((with_reducible (show qap _ (.call _) _ _ _ _));first|((with_reducible apply qbF);(exact qek rfl rfl (by simp) rfl);(exact a7);rfl;(exact zL rfl);rfl)|((with_reducible apply qaj);(exact qek rfl rfl (by simp) rfl);(exact hcz);rfl))|(with_reducible rfl)|refine zQ ?_|refine zF a4 ?_|refine zF a5 ?_|refine zF a6 ?_|(refine zI ?_;intro hlt)|(refine zC ?_ ?_<;>first|intro h|simp)|(refine zG ?_ ?_<;>first|intro h|simp)|((with_reducible apply qaz);rfl;rfl)|refine zE ?_|fail)
   all_goals first|rfl|(simp;done)|(exfalso;omega)|(exfalso;simp at *;done)|(exfalso;exact hST (by omega) (by omega) (by omega))|trace_state
end Go.Pv.Soil

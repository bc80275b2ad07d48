import Derived.Test.YtfklpkgdobdbpaaGreatCBJ
import Derived.Test.YtfklpkgdobdbpaaGreatCBM
/- Part of the proofs over YtfklpkgdobdbpaaGreat: N29. -/
set_option linter.unusedVariables false
set_option linter.unusedSimpArgs false
set_option linter.unnecessarySimpa false
open Go Go.Proofs Go.Pv
set_option maxHeartbeats 8000000
set_option maxRecDepth 100000
set_option linter.unusedSimpArgs false
set_option linter.unusedVariables false
namespace Go.Pv.Soil
def inN(l:List Nat)(v:Int):Bool:=l.any fun i=>decide (v=(i:Int))
theorem qDs(l:List Nat)(hl:l.length<1000000000000)(v:Int):Contract Tryz.prog 214 [.sl (l.map qcx),.int .i64 v] (.ret (.bool (inN l v))):=by
 have h:=qKt (l.map fun i:Nat=>(i:Int)) (by simpa using hl) v
 have e:(l.map fun i:Nat=>(i:Int)).map qal=l.map qcx:=by rw[List.map_map];rfl
 have e2:((l.map fun i:Nat=>(i:Int)).any fun x=>decide (v=x))=inN l v:=by rw[List.any_map];rfl
 rw[e,e2]at h
 exact h
noncomputable def qlQ(s:Site)(c:Cut)(i:Nat):Bool:=(qtl s i).2&&decide (c.level<(qtl s i).1)
def qp7(low:List Nat)(x:Steep):Bool:=inN low x.high||inN low x.low
def qgB(low:List Nat)(l:List Steep):Option (Int×Int):=(l.find? (qp7 low)).map fun x=>(14,x.low)
theorem qp8{low:List Nat}{l:List Steep}{i:Nat}(hi:i<l.length)(hC:∀j (hj:j<l.length),j<i→qp7 low l[j]=false)(h:qp7 low l[i]=true):qgB low l=some (14,l[i].low):=by
 have:l.find? (qp7 low)=some l[i]:=by
  rw[List.find?_eq_some_iff_getElem]
  exact⟨h,i,hi,rfl,fun j hj=>by rw[hC j (by omega) hj];rfl⟩
 rw[qgB,this];rfl
theorem qp9{low:List Nat}{l:List Steep}(hC:∀j (hj:j<l.length),qp7 low l[j]=false):qgB low l=none:=by
 have:l.find? (qp7 low)=none:=by
  rw[List.find?_eq_none]
  intro x hx
  obtain⟨j,hj,rfl⟩:=List.mem_iff_getElem.1 hx
  rw[hC j hj];simp
 rw[qgB,this];rfl
theorem qlR:qjg qbW 3:=fun _=>⟨rfl,rfl,rfl⟩
theorem qAl(s:Site)(hz:Sized s)(hs:OkSite s)(a:Grid)(ha:qa2 a=0):Contract Tryz.prog 246 [.agg (qam s.ground),.agg (qag a)] (.ret (.tup [.sl ((qbI s.ground a a.levels.length).map qbW),.int .i64 0])):=by
 have h1:=c39 s.ground hz.so hz.bo a (by have:=(qf4 ha).small;omega)
 have e:qbg s.ground [a]=0:=by
  unfold qbg
  rw[if_neg (not_not_intro hs.gr),if_neg]
  show ¬qc8 [qa2 a]≠0
  rw[ha];decide
 rw[qoh,e]at h1
 rw[if_pos rfl]at h1
 exact qsu qlR h1
noncomputable def qeL(s:Site)(c:Cut)(low:List Nat)(a:Grid):Option (Int×Int):=(findR (qlQ s c) 15 low).or (qgB low (qbI s.ground a a.levels.length))
theorem qAm(s:Site)(hz:Sized s)(hs:OkSite s)(b:Grid)(c:Cut)(cells:List Nat)(a:Grid)(ha:qa2 a=0)
  (low:List Nat) (hll:low.length≤1024) (hlo:∀j (hj:j<low.length),low[j]<s.bed.levels.length) (f t:Int):
  Contract Tryz.prog 186 [.ptr (qbz s b c (dredOf s c.dredger) cells a low f t)] (qG5 (qeL s c low a)):=by
 have hM:=qx1 (qbz s b c (dredOf s c.dredger) cells a low f t)
 unfold qeL
 refine zT mix Tryz.func186 Tryz.ntmps186 Tryz.results186 rfl rfl rfl ?_;simp only[qab,Nat.reduceAdd]
 repeat'(first|((with_reducible apply qao);rfl;rfl)|refine zS ?_|refine zA ?_|fail)
 refine qad low.length (fun i=>⟨[(15,.int .i64 i),(14,.int .i64 low.length),(13,.sl (low.map qcx)),(0,.ptr (qbz s b c (dredOf s c.dredger) cells a low f t))],[],0,85⟩) (fun i=>∀j (hj:j<low.length),j<i→qlQ s c low[j]=false) (qaa (nx:=0) (k:=0) (ns:=[]) (ks:=[15,14,13,0]) [] rfl (by simp) (by kernel_rfl)) (by omega) ?_
 intro i hi hC
 by_cases hL:i<low.length
 ·have hil:=hlo i hL
  have h1:=qxY s hs low[i] hil
  have hq:qlQ s c low[i]=((qtl s low[i]).2&&decide (c.level<(qtl s low[i]).1)):=rfl
  generalize qtl s low[i]=w at*
  obtain⟨w1,w2⟩:=w
  cases w2
  ·repeat'(first|((with_reducible apply qao);rfl;rfl)|(with_reducible apply qaW)|(with_reducible apply qbQ)|(with_reducible apply qbu)|(((with_reducible apply qck);rfl;(exact hM _ _ _);rfl;rfl)<;>(intro h;try simp only[decide_eq_true_eq,decide_eq_false_iff_not,Bool.not_eq_true',Bool.not_eq_false',Bool.not_true,Bool.not_false]at h;try exact absurd trivial h))|refine zS ?_|refine zA ?_|refine zF h1 ?_|(refine zI ?_;intro hlt)|(refine zC ?_ ?_<;>first|intro h|simp)|fail)
   all_goals first
    |exact absurd hL (by omega)
    |exact absurd (show true=false by assumption) (by decide)
    |exact⟨hL,qlN hL hC (hq.trans rfl),qaa (nx:=0) (k:=0) (ns:=[]) (ks:=[15,14,13,0]) [] rfl (by simp) (by kernel_rfl)⟩
    |trace_state
  ·repeat'(first|((with_reducible apply qao);rfl;rfl)|(with_reducible apply qaW)|(with_reducible apply qbQ)|(with_reducible apply qbu)|(((with_reducible apply qck);rfl;(exact hM _ _ _);rfl;rfl)<;>(intro h;try simp only[decide_eq_true_eq,decide_eq_false_iff_not,Bool.not_eq_true',Bool.not_eq_false',Bool.not_true,Bool.not_false]at h;try exact absurd trivial h))|refine zS ?_|refine zA ?_|refine zF h1 ?_|(refine zI ?_;intro hlt)|(refine zC ?_ ?_<;>first|intro h|simp)|fail)
   all_goals first
    |exact absurd hL (by omega)
    |(rw[qgU hL hC (hq.trans (decide_eq_true (by omega)))]
      exact qb2 rfl)
    |exact⟨hL,qlN hL hC (hq.trans (decide_eq_false (by omega))),qaa (nx:=0) (k:=0) (ns:=[]) (ks:=[15,14,13,0]) [] rfl (by simp) (by kernel_rfl)⟩
    |trace_state
 rw[qgV (fun j hj=>hC j hj (by omega)),Option.none_or]
 have h2:=qAl s hz hs a ha
 have hsl:=qgT s.ground a a.levels.length
 have hsl2:=Nat.mul_le_mul (qf4 ha).small (qf4 ha).small
 generalize qbI s.ground a a.levels.length=st at*
 repeat'(first|((with_reducible apply qao);rfl;rfl)|refine zS ?_|refine zA ?_|refine zF h2 ?_|(refine zI ?_;intro hlt)|(refine zC ?_ ?_<;>first|intro h|simp)|fail)
 all_goals try exact absurd hL (by omega)
 refine qad st.length (fun i=>⟨[(58,.int .i64 i),(57,.int .i64 st.length),(56,.sl (st.map qbW)),(0,.ptr (qbz s b c (dredOf s c.dredger) cells a low f t))],[],0,85⟩) (fun i=>∀j (hj:j<st.length),j<i→qp7 low st[j]=false) (qaa (nx:=0) (k:=0) (ns:=[]) (ks:=[58,57,56,0]) [] rfl (by simp) (by kernel_rfl)) (by omega) ?_
 intro j hj hD
 by_cases hM2:j<st.length
 ·have h3:=qDs low (by omega) st[j].high
  have h4:=qDs low (by omega) st[j].low
  have hq:qp7 low st[j]=(inN low st[j].high||inN low st[j].low):=rfl
  generalize inN low st[j].high=b1 at*
  generalize inN low st[j].low=b2 at*
  repeat'(first|((with_reducible (show evG _ _ (.region 10 _ _) _ _));(with_reducible apply(qdR 21));kernel_rfl;rfl)|((with_reducible apply qao);rfl;rfl)|(with_reducible apply qaW)|(with_reducible apply qbQ)|(with_reducible apply qbu)|(((with_reducible apply qck);rfl;(exact hM _ _ _);rfl;rfl)<;>(intro h;try simp only[decide_eq_true_eq,decide_eq_false_iff_not,Bool.not_eq_true',Bool.not_eq_false',Bool.not_true,Bool.not_false]at h;try exact absurd trivial h))|refine zS ?_|refine zA ?_|refine zF h3 ?_|refine zF h4 ?_|(refine zI ?_;intro hlt)|(refine zC ?_ ?_<;>first|intro h|simp)|(refine zG ?_ ?_<;>first|intro h|simp)|fail)
  all_goals first
   |exact absurd hM2 (by omega)
   |exact absurd (show true=false by assumption) (by decide)
   |exact absurd (show false=true by assumption) (by decide)
   |(rw[qp8 hM2 hD (hq.trans (by simp_all))]
     exact qb2 rfl)
   |(refine⟨hM2,fun k hk hkj=>?_,qaa (nx:=0) (k:=0) (ns:=[]) (ks:=[58,57,56,0]) [] rfl (by simp) (by kernel_rfl)⟩
     rcases Nat.lt_succ_iff_lt_or_eq.1 hkj with h'|rfl
     ·exact hD k hk h'
     ·exact hq.trans (by simp_all))
   |trace_state
 ·rw[qp9 (fun k hk=>hD k hk (by omega))]
  repeat'(first|refine zQ ?_|(refine zI ?_;intro hlt)|(refine zC ?_ ?_<;>first|intro h|simp)|fail)
  all_goals first
   |exact absurd hM2 (by omega)
   |exact qke
   |trace_state
end Go.Pv.Soil

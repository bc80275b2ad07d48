import Derived.Test.YtfklpkgdobdbpaaGreatCBF
import Derived.Test.YtfklpkgdobdbpaaGreatCBJ
/- Part of the proofs over YtfklpkgdobdbpaaGreat: N29. -/
set_option linter.unusedVariables false
set_option linter.unusedSimpArgs false
set_option linter.unnecessarySimpa false
open Go Go.Proofs Go.Pv
set_option maxHeartbeats 8000000
set_option maxRecDepth 100000
set_option linter.unusedSimpArgs false
set_option linter.unusedVariables false
namespace Go.Pv.Soil
def inN(l:List Nat)(v:Int):Bool:=l.any fun i=>decide (v=(i:Int))
theorem qBq(l:List Nat)(hl:l.length<1000000000000)(v:Int):Contract Tryz.prog 214 [.sl (l.map qcX),.int .i64 v] (.ret (.bool (inN l v))):=by
 have h:=qIg (l.map fun i:Nat=>(i:Int)) (by simpa using hl) v
 have e:(l.map fun i:Nat=>(i:Int)).map qak=l.map qcX:=by rw[List.map_map];rfl
 have e2:((l.map fun i:Nat=>(i:Int)).any fun x=>decide (v=x))=inN l v:=by rw[List.any_map];rfl
 rw[e,e2]at h
 exact h
noncomputable def qo1(s:Site)(c:Cut)(i:Nat):Bool:=(qv6 s i).2&&decide (c.level<(qv6 s i).1)
def qw8(low:List Nat)(x:Steep):Bool:=inN low x.high||inN low x.low
def qmh(low:List Nat)(l:List Steep):Option (Int×Int):=(l.find? (qw8 low)).map fun x=>(14,x.low)
theorem qo2{low:List Nat}{l:List Steep}{i:Nat}(hi:i<l.length)(hC:∀j (hj:j<l.length),j<i→qw8 low l[j]=false)(h:qw8 low l[i]=true):qmh low l=some (14,l[i].low):=by
 have:l.find? (qw8 low)=some l[i]:=by
  rw[List.find?_eq_some_iff_getElem]
  exact⟨h,i,hi,rfl,fun j hj=>by rw[hC j (by omega) hj];rfl⟩
 rw[qmh,this];rfl
theorem qo3{low:List Nat}{l:List Steep}(hC:∀j (hj:j<l.length),qw8 low l[j]=false):qmh low l=none:=by
 have:l.find? (qw8 low)=none:=by
  rw[List.find?_eq_none]
  intro x hx
  obtain⟨j,hj,rfl⟩:=List.mem_iff_getElem.1 hx
  rw[hC j hj];simp
 rw[qmh,this];rfl
theorem qo4:qiH qbH 3:=fun _=>⟨rfl,rfl,rfl⟩
theorem qyr(s:Site)(hz:Sized s)(hs:OkSite s)(a:Grid)(ha:qa8 a=0):Contract Tryz.prog 246 [.agg (qam s.ground),.agg (encGrid a)] (.ret (.tup [.sl ((qcW s.ground a a.levels.length).map qbH),.int .i64 0])):=by
 have h1:=c39 s.ground hz.so hz.bo a (by have:=(qfx ha).small;omega)
 have e:qa3 s.ground [a]=0:=by
  unfold qa3
  rw[if_neg (not_not_intro hs.gr),if_neg]
  show ¬qcR [qa8 a]≠0
  rw[ha];decide
 rw[qnb,e]at h1
 rw[if_pos rfl]at h1
 exact qq2 qo4 h1
noncomputable def qhl(s:Site)(c:Cut)(low:List Nat)(a:Grid):Option (Int×Int):=(qbI (qo1 s c) 15 low).or (qmh low (qcW s.ground a a.levels.length))
theorem qys(s:Site)(hz:Sized s)(hs:OkSite s)(b:Grid)(c:Cut)(cells:List Nat)(a:Grid)(ha:qa8 a=0)
  (low:List Nat) (hll:low.length≤1024) (hlo:∀j (hj:j<low.length),low[j]<s.bed.levels.length) (f t:Int):
  Contract Tryz.prog 186 [.ptr (qbp s b c (dredOf s c.dredger) cells a low f t)] (qET (qhl s c low a)):=by
 have hM:=qwd (qbp s b c (dredOf s c.dredger) cells a low f t)
 unfold qhl
 refine zT mix Tryz.func186 Tryz.ntmps186 Tryz.results186 rfl rfl rfl ?_;simp only[qac,Nat.reduceAdd]
 repeat'(first|((with_reducible apply qao);rfl;rfl)|refine zS ?_|refine zA ?_|fail)
 refine qaf low.length (fun i=>⟨[(15,.int .i64 i),(14,.int .i64 low.length),(13,.sl (low.map qcX)),(0,.ptr (qbp s b c (dredOf s c.dredger) cells a low f t))],[],0,85⟩) (fun i=>∀j (hj:j<low.length),j<i→qo1 s c low[j]=false) (qaa (nx:=0) (k:=0) (ns:=[]) (ks:=[15,14,13,0]) [] rfl (by simp) (by kernel_rfl)) (by omega) ?_
 intro i hi hC
 by_cases hL:i<low.length
 ·have hil:=hlo i hL
  have h1:=qv7 s hs low[i] hil
  have hq:qo1 s c low[i]=((qv6 s low[i]).2&&decide (c.level<(qv6 s low[i]).1)):=rfl
  generalize qv6 s low[i]=w at*
  obtain⟨w1,w2⟩:=w
  cases w2
  ·repeat'(first|((with_reducible apply qao);rfl;rfl)|(with_reducible apply qaQ)|(with_reducible apply qbA)|(with_reducible apply qbk)|(((with_reducible apply qb8);rfl;(exact hM _ _ _);rfl;rfl)<;>(intro h;try simp only[decide_eq_true_eq,decide_eq_false_iff_not,Bool.not_eq_true',Bool.not_eq_false',Bool.not_true,Bool.not_false]at h;try exact absurd trivial h))|refine zS ?_|refine zA ?_|refine zF h1 ?_|(refine zI ?_;intro hlt)|(refine zC ?_ ?_<;>first|intro h|simp)|fail)
   all_goals first
    |exact absurd hL (by omega)
    |exact absurd (show true=false by assumption) (by decide)
    |exact⟨hL,qk2 hL hC (hq.trans rfl),qaa (nx:=0) (k:=0) (ns:=[]) (ks:=[15,14,13,0]) [] rfl (by simp) (by kernel_rfl)⟩
    |trace_state
  ·repeat'(first|((with_reducible apply qao);rfl;rfl)|(with_reducible apply qaQ)|(with_reducible apply qbA)|(with_reducible apply qbk)|(((with_reducible apply qb8);rfl;(exact hM _ _ _);rfl;rfl)<;>(intro h;try simp only[decide_eq_true_eq,decide_eq_false_iff_not,Bool.not_eq_true',Bool.not_eq_false',Bool.not_true,Bool.not_false]at h;try exact absurd trivial h))|refine zS ?_|refine zA ?_|refine zF h1 ?_|(refine zI ?_;intro hlt)|(refine zC ?_ ?_<;>first|intro h|simp)|fail)
   all_goals first
    |exact absurd hL (by omega)
    |(rw[qgx hL hC (hq.trans (decide_eq_true (by omega)))]
      exact qbM rfl)
    |exact⟨hL,qk2 hL hC (hq.trans (decide_eq_false (by omega))),qaa (nx:=0) (k:=0) (ns:=[]) (ks:=[15,14,13,0]) [] rfl (by simp) (by kernel_rfl)⟩
    |trace_state
 rw[qgy (fun j hj=>hC j hj (by omega)),Option.none_or]
 have h2:=qyr s hz hs a ha
 have hsl:=qgv s.ground a a.levels.length
 have hsl2:=Nat.mul_le_mul (qfx ha).small (qfx ha).small
 generalize qcW s.ground a a.levels.length=st at*
 repeat'(first|((with_reducible apply qao);rfl;rfl)|refine zS ?_|refine zA ?_|refine zF h2 ?_|(refine zI ?_;intro hlt)|(refine zC ?_ ?_<;>first|intro h|simp)|fail)
 all_goals try exact absurd hL (by omega)
 refine qaf st.length (fun i=>⟨[(58,.int .i64 i),(57,.int .i64 st.length),(56,.sl (st.map qbH)),(0,.ptr (qbp s b c (dredOf s c.dredger) cells a low f t))],[],0,85⟩) (fun i=>∀j (hj:j<st.length),j<i→qw8 low st[j]=false) (qaa (nx:=0) (k:=0) (ns:=[]) (ks:=[58,57,56,0]) [] rfl (by simp) (by kernel_rfl)) (by omega) ?_
 intro j hj hD
 by_cases hM2:j<st.length
 ·have h3:=qBq low (by omega) st[j].high
  have h4:=qBq low (by omega) st[j].low
  have hq:qw8 low st[j]=(inN low st[j].high||inN low st[j].low):=rfl
  generalize inN low st[j].high=b1 at*
  generalize inN low st[j].low=b2 at*
  repeat'(first|((with_reducible (show evG _ _ (.region 10 _ _) _ _));(with_reducible apply(qdZ 21));kernel_rfl;rfl)|((with_reducible apply qao);rfl;rfl)|(with_reducible apply qaQ)|(with_reducible apply qbA)|(with_reducible apply qbk)|(((with_reducible apply qb8);rfl;(exact hM _ _ _);rfl;rfl)<;>(intro h;try simp only[decide_eq_true_eq,decide_eq_false_iff_not,Bool.not_eq_true',Bool.not_eq_false',Bool.not_true,Bool.not_false]at h;try exact absurd trivial h))|refine zS ?_|refine zA ?_|refine zF h3 ?_|refine zF h4 ?_|(refine zI ?_;intro hlt)|(refine zC ?_ ?_<;>first|intro h|simp)|(refine zG ?_ ?_<;>first|intro h|simp)|fail)
  all_goals first
   |exact absurd hM2 (by omega)
   |exact absurd (show true=false by assumption) (by decide)
   |exact absurd (show false=true by assumption) (by decide)
   |(rw[qo2 hM2 hD (hq.trans (by simp_all))]
     exact qbM rfl)
   |(refine⟨hM2,fun k hk hkj=>?_,qaa (nx:=0) (k:=0) (ns:=[]) (ks:=[58,57,56,0]) [] rfl (by simp) (by kernel_rfl)⟩
     rcases Nat.lt_succ_iff_lt_or_eq.1 hkj with h'|rfl
     ·exact hD k hk h'
     ·exact hq.trans (by simp_all))
   |trace_state
 ·rw[qo3 (fun k hk=>hD k hk (by omega))]
  repeat'(first|refine zQ ?_|(refine zI ?_;intro hlt)|(refine zC ?_ ?_<;>first|intro h|simp)|fail)
  all_goals first
   |exact absurd hM2 (by omega)
   |exact qjz
   |trace_state
end Go.Pv.Soil

import Derived.Test.YtfklpkgdobdbpaaGreatCBE
/- Part of the proofs over YtfklpkgdobdbpaaGreat: N27. -/
set_option linter.unusedVariables false
set_option linter.unusedSimpArgs false
set_option linter.unnecessarySimpa false
open Go Go.Proofs Go.Pv
set_option maxHeartbeats 8000000
set_option maxRecDepth 100000
set_option linter.unusedSimpArgs false
set_option linter.unusedVariables false
namespace Go.Pv.Soil
def qET:Option (Int×Int)→Outc
 |none=>.ret (.tup [])
 |some (r,c)=>.pan (qC9 r c)
def qbI(p:Nat→Bool)(r:Int)(l:List Nat):Option (Int×Int):=(l.find? p).map fun(i:Nat)=>(r,(i:Int))
theorem qgx{p:Nat→Bool}{r:Int}{l:List Nat}{i:Nat}(hi:i<l.length)(hC:∀j (hj:j<l.length),j<i→p l[j]=false)(h:p l[i]=true):qbI p r l=some (r,(l[i]:Int)):=by
 have:l.find? p=some l[i]:=by
  rw[List.find?_eq_some_iff_getElem]
  exact⟨h,i,hi,rfl,fun j hj=>by rw[hC j (by omega) hj];rfl⟩
 rw[qbI,this];rfl
theorem qgy{p:Nat→Bool}{r:Int}{l:List Nat}(hC:∀j (hj:j<l.length),p l[j]=false):qbI p r l=none:=by
 have:l.find? p=none:=by
  rw[List.find?_eq_none]
  intro x hx
  obtain⟨j,hj,rfl⟩:=List.mem_iff_getElem.1 hx
  rw[hC j hj];simp
 rw[qbI,this];rfl
theorem qk2{p:Nat→Bool}{l:List Nat}{i:Nat}(hL:i<l.length)(hC:∀j (hj:j<l.length),j<i→p l[j]=false)(h:p l[i]=false):∀j (hj:j<l.length),j<i+1→p l[j]=false:=fun j hj hji=>by
 rcases Nat.lt_succ_iff_lt_or_eq.1 hji with h'|rfl
 ·exact hC j hj h'
 ·exact h
def qqf(b:Grid)(c:Cut)(d:Dred)(i:Nat):Bool:=decide (d.bite<lv b.levels i-c.level)
def qni(s:Site)(b:Grid)(c:Cut)(i:Nat):Bool:= !qd5 s b c i
def qBi(b:Grid)(i:Nat):Bool:=decide (lv b.levels i=30000)
def qeD(s:Site)(b:Grid)(c:Cut)(cells low:List Nat)(f t:Int):Option (Int×Int):=
 (if qnh (dredOf s c.dredger) c=true then none else some (3,((cells.getD 0 0:Nat):Int))).or<|(qbI (qBi b) 12 cells).or<|(qbI (qf7 s) 13 cells).or<|(qbI (qqf b c (dredOf s c.dredger)) 19 low).or<|
  (qbI (qni s b c) 6 low).or<|if t-f≤3000∧t≤1000001 then none else some (8,((cells.getD 0 0:Nat):Int))
theorem qBj(s:Site)(hz:Sized s)(hs:OkSite s)(b:Grid)(hb:OkBed s b)(c:Cut)(hc:OkCut s c)(cells:List Nat)(h0:0<cells.length)(hcl:cells.length≤1024)(hce:∀j (hj:j<cells.length),cells[j]<b.levels.length)(a:Grid)
  (low:List Nat) (hll:low.length≤1024) (hlo:∀j (hj:j<low.length),low[j]<b.levels.length∧c.level≤lv b.levels low[j]∧lv b.levels low[j]≠30000) (f t:Int) (hf:0≤f∧f≤1000000) (ht:0≤t∧t≤10000000000000):
  Contract Tryz.prog 184 [.ptr (qbp s b c (dredOf s c.dredger) cells a low f t)] (qET (qeD s b c cells low f t)):=by
 have h1:=qDb s b c (dredOf s c.dredger) cells a low f t
 have hM:=qwd (qbp s b c (dredOf s c.dredger) cells a low f t)
 have hg:cells.getD 0 0=cells[0]:=by rw[List.getD_eq_getElem?_getD,List.getElem?_eq_getElem h0];rfl
 have hbl:=hb.len hs.bed
 cases hform:qnh (dredOf s c.dredger) c
 ·have e:qeD s b c cells low f t=some ((3:Int),((cells[0]:Nat):Int)):=by unfold qeD;rw[hform,hg];rfl
  rw[e]
  rw[hform]at h1
  refine zT mix Tryz.func184 Tryz.ntmps184 Tryz.results184 rfl rfl rfl ?_;simp only[qac,Nat.reduceAdd]
  repeat'(first|((with_reducible apply qao);rfl;rfl)|(with_reducible apply qaQ)|(with_reducible apply qbk)|(((with_reducible apply qb8);rfl;(exact hM _ _ _);rfl;rfl)<;>(intro h;try simp only[decide_eq_true_eq,decide_eq_false_iff_not,Bool.not_eq_true',Bool.not_eq_false',Bool.not_true,Bool.not_false]at h;try exact absurd trivial h))|refine zS ?_|refine zA ?_|refine zF h1 ?_|(refine zI ?_;intro hlt)|fail)
  all_goals first
   |exact qbM rfl
   |exact absurd (show false=true by assumption) (by decide)
   |trace_state
 have e:qeD s b c cells low f t=(qbI (qBi b) 12 cells).or ((qbI (qf7 s) 13 cells).or<|(qbI (qqf b c (dredOf s c.dredger)) 19 low).or<|
  (qbI (qni s b c) 6 low).or<|if t-f≤3000∧t≤1000001 then none else some (8,((cells[0]:Nat):Int))):=by unfold qeD;rw[hform,hg];rfl
 rw[e]
 rw[hform]at h1
 refine zT mix Tryz.func184 Tryz.ntmps184 Tryz.results184 rfl rfl rfl ?_;simp only[qac,Nat.reduceAdd]
 repeat'(first|((with_reducible apply qao);rfl;rfl)|(with_reducible apply qaQ)|(with_reducible apply qbk)|(((with_reducible apply qb8);rfl;(exact hM _ _ _);rfl;rfl)<;>(intro h;try simp only[decide_eq_true_eq,decide_eq_false_iff_not,Bool.not_eq_true',Bool.not_eq_false',Bool.not_true,Bool.not_false]at h;try exact absurd trivial h))|refine zS ?_|refine zA ?_|refine zF h1 ?_|(refine zI ?_;intro hlt)|fail)
 all_goals try exact absurd (show true=false by assumption) (by decide)
 refine qaf cells.length (fun i=>⟨[(28,.int .i64 i),(27,.int .i64 cells.length),(26,.sl (cells.map qcX)),(2,.int .i64 cells[0]),(0,.ptr (qbp s b c (dredOf s c.dredger) cells a low f t))],[],0,138⟩) (fun i=>∀j (hj:j<cells.length),j<i→qBi b cells[j]=false) (qaa (nx:=0) (k:=0) (ns:=[]) (ks:=[28,27,26,2,0]) [] rfl (by simp) (by kernel_rfl)) (by omega) ?_
 intro i1 hi1 hC1
 by_cases hL1:i1<cells.length
 ·have hil:=hce i1 hL1
  have hlv:=qbu hil
  have hu:qBi b cells[i1]=decide (b.levels[cells[i1]]=30000):=by rw[qBi,hlv]
  repeat'(first|((with_reducible apply qao);rfl;rfl)|(with_reducible apply qaQ)|(with_reducible apply qbA)|(with_reducible apply qbk)|(((with_reducible apply qb8);rfl;(exact hM _ _ _);rfl;rfl)<;>(intro h;try simp only[decide_eq_true_eq,decide_eq_false_iff_not,Bool.not_eq_true',Bool.not_eq_false',Bool.not_true,Bool.not_false]at h;try exact absurd trivial h))|refine zS ?_|refine zA ?_|(refine zI ?_;intro hlt)|(refine zC ?_ ?_<;>first|intro h|simp)|fail)
  all_goals first
   |exact absurd hL1 (by omega)
   |(rw[qgx hL1 (fun j hj hji=>hC1 j hj hji) (hu.trans (by first|exact decide_eq_true (by omega)|exact decide_eq_false (by omega)|simp_all))]
     exact qbM rfl)
   |exact⟨hL1,qk2 hL1 hC1 (hu.trans (by first|exact decide_eq_true (by omega)|exact decide_eq_false (by omega)|simp_all)),qaa (nx:=0) (k:=0) (ns:=[]) (ks:=[28,27,26,2,0]) [] rfl (by simp) (by kernel_rfl)⟩
   |trace_state
 repeat'(first|((with_reducible apply qao);rfl;rfl)|refine zS ?_|refine zA ?_|(refine zI ?_;intro hlt)|(refine zC ?_ ?_<;>first|intro h|simp)|fail)
 all_goals try exact absurd (show i1<cells.length by omega) hL1
 rw[qgy (fun j hj=>hC1 j hj (by omega)),Option.none_or]
 refine qaf cells.length (fun i=>⟨[(50,.int .i64 i),(49,.int .i64 cells.length),(48,.sl (cells.map qcX)),(2,.int .i64 cells[0]),(0,.ptr (qbp s b c (dredOf s c.dredger) cells a low f t))],[],0,138⟩) (fun i=>∀j (hj:j<cells.length),j<i→qf7 s cells[j]=false) (qaa (nx:=0) (k:=0) (ns:=[]) (ks:=[50,49,48,2,0]) [] rfl (by simp) (by kernel_rfl)) (by omega) ?_
 intro i2 hi2 hC2
 by_cases hL2:i2<cells.length
 ·have hil:=hce i2 hL2
  have h2:=qkY s hs cells[i2] (by omega)
  have hu:qf7 s cells[i2]=qf7 s cells[i2]:=rfl
  repeat'(first|((with_reducible apply qao);rfl;rfl)|(with_reducible apply qaQ)|(with_reducible apply qbA)|(with_reducible apply qbk)|(((with_reducible apply qb8);rfl;(exact hM _ _ _);rfl;rfl)<;>(intro h;try simp only[decide_eq_true_eq,decide_eq_false_iff_not,Bool.not_eq_true',Bool.not_eq_false',Bool.not_true,Bool.not_false]at h;try exact absurd trivial h))|refine zS ?_|refine zA ?_|refine zF h2 ?_|(refine zI ?_;intro hlt)|(refine zC ?_ ?_<;>first|intro h|simp)|fail)
  all_goals first
   |exact absurd hL2 (by omega)
   |(rw[qgx hL2 (fun j hj hji=>hC2 j hj hji) (hu.trans (by first|exact decide_eq_true (by omega)|exact decide_eq_false (by omega)|simp_all))]
     exact qbM rfl)
   |exact⟨hL2,qk2 hL2 hC2 (hu.trans (by first|exact decide_eq_true (by omega)|exact decide_eq_false (by omega)|simp_all)),qaa (nx:=0) (k:=0) (ns:=[]) (ks:=[50,49,48,2,0]) [] rfl (by simp) (by kernel_rfl)⟩
   |trace_state
 repeat'(first|((with_reducible apply qao);rfl;rfl)|refine zS ?_|refine zA ?_|(refine zI ?_;intro hlt)|(refine zC ?_ ?_<;>first|intro h|simp)|fail)
 all_goals try exact absurd (show i2<cells.length by omega) hL2
 rw[qgy (fun j hj=>hC2 j hj (by omega)),Option.none_or]
 refine qaf low.length (fun i=>⟨[(70,.int .i64 i),(69,.int .i64 low.length),(68,.sl (low.map qcX)),(2,.int .i64 cells[0]),(0,.ptr (qbp s b c (dredOf s c.dredger) cells a low f t))],[],0,138⟩) (fun i=>∀j (hj:j<low.length),j<i→qqf b c (dredOf s c.dredger) low[j]=false) (qaa (nx:=0) (k:=0) (ns:=[]) (ks:=[70,69,68,2,0]) [] rfl (by simp) (by kernel_rfl)) (by omega) ?_
 intro i3 hi3 hC3
 by_cases hL3:i3<low.length
 ·obtain⟨hil,hlv1,hlv2⟩:=hlo i3 hL3
  have hlv:=qbu hil
  have hbd: -20000≤b.levels[low[i3]]∧b.levels[low[i3]]≤30000:=by rcases hb.ok.lvl _ hil with h|h
                                                                 ·omega
                                                                 ·have:=of_decide_eq_true h;omega
  have hdd:=hc.lvl
  have hu:qqf b c (dredOf s c.dredger) low[i3]=decide ((dredOf s c.dredger).bite<b.levels[low[i3]]-c.level):=by rw[qqf,hlv]
  repeat'(first|((with_reducible (show evG _ _ (.region 15 _ _) _ _));(with_reducible apply(qdZ 22));kernel_rfl;rfl)|((with_reducible apply qao);rfl;rfl)|(with_reducible apply qaQ)|(with_reducible apply qbA)|(with_reducible apply qbk)|(((with_reducible apply qb8);rfl;(exact hM _ _ _);rfl;rfl)<;>(intro h;try simp only[decide_eq_true_eq,decide_eq_false_iff_not,Bool.not_eq_true',Bool.not_eq_false',Bool.not_true,Bool.not_false]at h;try exact absurd trivial h))|refine zS ?_|refine zA ?_|(refine zI ?_;intro hlt)|(refine zC ?_ ?_<;>first|intro h|simp)|fail)
  all_goals first
   |exact absurd hL3 (by omega)
   |(rw[qgx hL3 (fun j hj hji=>hC3 j hj hji) (hu.trans (by first|exact decide_eq_true (by omega)|exact decide_eq_false (by omega)|simp_all))]
     exact qbM rfl)
   |exact⟨hL3,qk2 hL3 hC3 (hu.trans (by first|exact decide_eq_true (by omega)|exact decide_eq_false (by omega)|simp_all)),qaa (nx:=0) (k:=0) (ns:=[]) (ks:=[70,69,68,2,0]) [] rfl (by simp) (by kernel_rfl)⟩
   |trace_state
 repeat'(first|((with_reducible apply qao);rfl;rfl)|refine zS ?_|refine zA ?_|(refine zI ?_;intro hlt)|(refine zC ?_ ?_<;>first|intro h|simp)|fail)
 all_goals try exact absurd (show i3<low.length by omega) hL3
 rw[qgy (fun j hj=>hC3 j hj (by omega)),Option.none_or]
 refine qaf low.length (fun i=>⟨[(103,.int .i64 i),(102,.int .i64 low.length),(101,.sl (low.map qcX)),(2,.int .i64 cells[0]),(0,.ptr (qbp s b c (dredOf s c.dredger) cells a low f t))],[],0,138⟩) (fun i=>∀j (hj:j<low.length),j<i→qni s b c low[j]=false) (qaa (nx:=0) (k:=0) (ns:=[]) (ks:=[103,102,101,2,0]) [] rfl (by simp) (by kernel_rfl)) (by omega) ?_
 intro i4 hi4 hC4
 by_cases hL4:i4<low.length
 ·obtain⟨hil,hlv1,hlv2⟩:=hlo i4 hL4
  have h2:=qwe s hz hs b hb c hc cells a low f t low[i4] hil hlv1 hlv2
  have hu:qni s b c low[i4]= !qd5 s b c low[i4]:=rfl
  repeat'(first|((with_reducible apply qao);rfl;rfl)|(with_reducible apply qaQ)|(with_reducible apply qbA)|(with_reducible apply qbk)|(((with_reducible apply qb8);rfl;(exact hM _ _ _);rfl;rfl)<;>(intro h;try simp only[decide_eq_true_eq,decide_eq_false_iff_not,Bool.not_eq_true',Bool.not_eq_false',Bool.not_true,Bool.not_false]at h;try exact absurd trivial h))|refine zS ?_|refine zA ?_|refine zF h2 ?_|(refine zI ?_;intro hlt)|(refine zC ?_ ?_<;>first|intro h|simp)|(refine zG ?_ ?_<;>first|intro h|simp)|fail)
  all_goals first
   |exact absurd hL4 (by omega)
   |(rw[qgx hL4 (fun j hj hji=>hC4 j hj hji) (hu.trans (by first|exact decide_eq_true (by omega)|exact decide_eq_false (by omega)|simp_all))]
     exact qbM rfl)
   |exact⟨hL4,qk2 hL4 hC4 (hu.trans (by first|exact decide_eq_true (by omega)|exact decide_eq_false (by omega)|simp_all)),qaa (nx:=0) (k:=0) (ns:=[]) (ks:=[103,102,101,2,0]) [] rfl (by simp) (by kernel_rfl)⟩
   |trace_state
 repeat'(first|((with_reducible apply qao);rfl;rfl)|refine zS ?_|refine zA ?_|(refine zI ?_;intro hlt)|(refine zC ?_ ?_<;>first|intro h|simp)|(refine zG ?_ ?_<;>first|intro h|simp)|fail)
 all_goals try exact absurd (show i4<low.length by omega) hL4
 all_goals rw[qgy (fun j hj=>hC4 j hj (by omega)),Option.none_or]
 repeat'(first|(with_reducible apply qaQ)|(((with_reducible apply qb8);rfl;(exact hM _ _ _);rfl;rfl)<;>(intro h;try simp only[decide_eq_true_eq,decide_eq_false_iff_not,Bool.not_eq_true',Bool.not_eq_false',Bool.not_true,Bool.not_false]at h;try exact absurd trivial h))|refine zA ?_|fail)
 all_goals first
  |exact absurd (show false=true by assumption) (by decide)
  |(rw[if_pos (by omega)];exact qjz)
  |(rw[if_neg (by omega)];exact qbM rfl)
  |trace_state
end Go.Pv.Soil

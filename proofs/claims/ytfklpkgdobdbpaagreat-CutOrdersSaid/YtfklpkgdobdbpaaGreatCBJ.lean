import Derived.Test.YtfklpkgdobdbpaaGreatCBI
/- Part of the proofs over YtfklpkgdobdbpaaGreat: N27. -/
set_option linter.unusedVariables false
set_option linter.unusedSimpArgs false
set_option linter.unnecessarySimpa false
open Go Go.Proofs Go.Pv
set_option maxHeartbeats 8000000
set_option maxRecDepth 100000
set_option linter.unusedSimpArgs false
set_option linter.unusedVariables false
namespace Go.Pv.Soil
def qG5:Option (Int×Int)→Outc
 |none=>.ret (.tup [])
 |some (r,c)=>.pan (qFe r c)
def findR(p:Nat→Bool)(r:Int)(l:List Nat):Option (Int×Int):=(l.find? p).map fun(i:Nat)=>(r,(i:Int))
theorem qgU{p:Nat→Bool}{r:Int}{l:List Nat}{i:Nat}(hi:i<l.length)(hC:∀j (hj:j<l.length),j<i→p l[j]=false)(h:p l[i]=true):findR p r l=some (r,(l[i]:Int)):=by
 have:l.find? p=some l[i]:=by
  rw[List.find?_eq_some_iff_getElem]
  exact⟨h,i,hi,rfl,fun j hj=>by rw[hC j (by omega) hj];rfl⟩
 rw[findR,this];rfl
theorem qgV{p:Nat→Bool}{r:Int}{l:List Nat}(hC:∀j (hj:j<l.length),p l[j]=false):findR p r l=none:=by
 have:l.find? p=none:=by
  rw[List.find?_eq_none]
  intro x hx
  obtain⟨j,hj,rfl⟩:=List.mem_iff_getElem.1 hx
  rw[hC j hj];simp
 rw[findR,this];rfl
theorem qlN{p:Nat→Bool}{l:List Nat}{i:Nat}(hL:i<l.length)(hC:∀j (hj:j<l.length),j<i→p l[j]=false)(h:p l[i]=false):∀j (hj:j<l.length),j<i+1→p l[j]=false:=fun j hj hji=>by
 rcases Nat.lt_succ_iff_lt_or_eq.1 hji with h'|rfl
 ·exact hC j hj h'
 ·exact h
def qp3(b:Grid)(c:Cut)(d:Dred)(i:Nat):Bool:=decide (d.bite<lv b.levels i-c.level)
def qmt(s:Site)(b:Grid)(c:Cut)(i:Nat):Bool:= !qen s b c i
def qAi(b:Grid)(i:Nat):Bool:=decide (lv b.levels i=30000)
def qed(s:Site)(b:Grid)(c:Cut)(cells low:List Nat)(f t:Int):Option (Int×Int):=
 (if qms (dredOf s c.dredger) c=true then none else some (3,((cells.getD 0 0:Nat):Int))).or<|(findR (qAi b) 12 cells).or<|(findR (qd2 s) 13 cells).or<|(findR (qp3 b c (dredOf s c.dredger)) 19 low).or<|
  (findR (qmt s b c) 6 low).or<|if t-f≤3000∧t≤1000001 then none else some (8,((cells.getD 0 0:Nat):Int))
theorem qDl(s:Site)(hz:Sized s)(hs:OkSite s)(b:Grid)(hb:OkBed s b)(c:Cut)(hc:OkCut s c)(cells:List Nat)(h0:0<cells.length)(hcl:cells.length≤1024)(hce:∀j (hj:j<cells.length),cells[j]<b.levels.length)(a:Grid)
  (low:List Nat) (hll:low.length≤1024) (hlo:∀j (hj:j<low.length),low[j]<b.levels.length∧c.level≤lv b.levels low[j]∧lv b.levels low[j]≠30000) (f t:Int) (hf:0≤f∧f≤1000000) (ht:0≤t∧t≤10000000000000):
  Contract Tryz.prog 184 [.ptr (qbz s b c (dredOf s c.dredger) cells a low f t)] (qG5 (qed s b c cells low f t)):=by
 have h1:=qFg s b c (dredOf s c.dredger) cells a low f t
 have hM:=qx1 (qbz s b c (dredOf s c.dredger) cells a low f t)
 have hg:cells.getD 0 0=cells[0]:=by rw[List.getD_eq_getElem?_getD,List.getElem?_eq_getElem h0];rfl
 have hbl:=hb.len hs.bed
 cases hform:qms (dredOf s c.dredger) c
 ·have e:qed s b c cells low f t=some ((3:Int),((cells[0]:Nat):Int)):=by unfold qed;rw[hform,hg];rfl
  rw[e]
  rw[hform]at h1
  refine zT mix Tryz.func184 Tryz.ntmps184 Tryz.results184 rfl rfl rfl ?_;simp only[qab,Nat.reduceAdd]
  repeat'(first|((with_reducible apply qao);rfl;rfl)|(with_reducible apply qaW)|(with_reducible apply qbu)|(((with_reducible apply qck);rfl;(exact hM _ _ _);rfl;rfl)<;>(intro h;try simp only[decide_eq_true_eq,decide_eq_false_iff_not,Bool.not_eq_true',Bool.not_eq_false',Bool.not_true,Bool.not_false]at h;try exact absurd trivial h))|refine zS ?_|refine zA ?_|refine zF h1 ?_|(refine zI ?_;intro hlt)|fail)
  all_goals first
   |exact qb2 rfl
   |exact absurd (show false=true by assumption) (by decide)
   |trace_state
 have e:qed s b c cells low f t=(findR (qAi b) 12 cells).or ((findR (qd2 s) 13 cells).or<|(findR (qp3 b c (dredOf s c.dredger)) 19 low).or<|
  (findR (qmt s b c) 6 low).or<|if t-f≤3000∧t≤1000001 then none else some (8,((cells[0]:Nat):Int))):=by unfold qed;rw[hform,hg];rfl
 rw[e]
 rw[hform]at h1
 refine zT mix Tryz.func184 Tryz.ntmps184 Tryz.results184 rfl rfl rfl ?_;simp only[qab,Nat.reduceAdd]
 repeat'(first|((with_reducible apply qao);rfl;rfl)|(with_reducible apply qaW)|(with_reducible apply qbu)|(((with_reducible apply qck);rfl;(exact hM _ _ _);rfl;rfl)<;>(intro h;try simp only[decide_eq_true_eq,decide_eq_false_iff_not,Bool.not_eq_true',Bool.not_eq_false',Bool.not_true,Bool.not_false]at h;try exact absurd trivial h))|refine zS ?_|refine zA ?_|refine zF h1 ?_|(refine zI ?_;intro hlt)|fail)
 all_goals try exact absurd (show true=false by assumption) (by decide)
 refine qad cells.length (fun i=>⟨[(28,.int .i64 i),(27,.int .i64 cells.length),(26,.sl (cells.map qcx)),(2,.int .i64 cells[0]),(0,.ptr (qbz s b c (dredOf s c.dredger) cells a low f t))],[],0,138⟩) (fun i=>∀j (hj:j<cells.length),j<i→qAi b cells[j]=false) (qaa (nx:=0) (k:=0) (ns:=[]) (ks:=[28,27,26,2,0]) [] rfl (by simp) (by kernel_rfl)) (by omega) ?_
 intro i1 hi1 hC1
 by_cases hL1:i1<cells.length
 ·have hil:=hce i1 hL1
  have hlv:=qbv hil
  have hu:qAi b cells[i1]=decide (b.levels[cells[i1]]=30000):=by rw[qAi,hlv]
  repeat'(first|((with_reducible apply qao);rfl;rfl)|(with_reducible apply qaW)|(with_reducible apply qbQ)|(with_reducible apply qbu)|(((with_reducible apply qck);rfl;(exact hM _ _ _);rfl;rfl)<;>(intro h;try simp only[decide_eq_true_eq,decide_eq_false_iff_not,Bool.not_eq_true',Bool.not_eq_false',Bool.not_true,Bool.not_false]at h;try exact absurd trivial h))|refine zS ?_|refine zA ?_|(refine zI ?_;intro hlt)|(refine zC ?_ ?_<;>first|intro h|simp)|fail)
  all_goals first
   |exact absurd hL1 (by omega)
   |(rw[qgU hL1 (fun j hj hji=>hC1 j hj hji) (hu.trans (by first|exact decide_eq_true (by omega)|exact decide_eq_false (by omega)|simp_all))]
     exact qb2 rfl)
   |exact⟨hL1,qlN hL1 hC1 (hu.trans (by first|exact decide_eq_true (by omega)|exact decide_eq_false (by omega)|simp_all)),qaa (nx:=0) (k:=0) (ns:=[]) (ks:=[28,27,26,2,0]) [] rfl (by simp) (by kernel_rfl)⟩
   |trace_state
 repeat'(first|((with_reducible apply qao);rfl;rfl)|refine zS ?_|refine zA ?_|(refine zI ?_;intro hlt)|(refine zC ?_ ?_<;>first|intro h|simp)|fail)
 all_goals try exact absurd (show i1<cells.length by omega) hL1
 rw[qgV (fun j hj=>hC1 j hj (by omega)),Option.none_or]
 refine qad cells.length (fun i=>⟨[(50,.int .i64 i),(49,.int .i64 cells.length),(48,.sl (cells.map qcx)),(2,.int .i64 cells[0]),(0,.ptr (qbz s b c (dredOf s c.dredger) cells a low f t))],[],0,138⟩) (fun i=>∀j (hj:j<cells.length),j<i→qd2 s cells[j]=false) (qaa (nx:=0) (k:=0) (ns:=[]) (ks:=[50,49,48,2,0]) [] rfl (by simp) (by kernel_rfl)) (by omega) ?_
 intro i2 hi2 hC2
 by_cases hL2:i2<cells.length
 ·have hil:=hce i2 hL2
  have h2:=qlJ s hs cells[i2] (by omega)
  have hu:qd2 s cells[i2]=qd2 s cells[i2]:=rfl
  repeat'(first|((with_reducible apply qao);rfl;rfl)|(with_reducible apply qaW)|(with_reducible apply qbQ)|(with_reducible apply qbu)|(((with_reducible apply qck);rfl;(exact hM _ _ _);rfl;rfl)<;>(intro h;try simp only[decide_eq_true_eq,decide_eq_false_iff_not,Bool.not_eq_true',Bool.not_eq_false',Bool.not_true,Bool.not_false]at h;try exact absurd trivial h))|refine zS ?_|refine zA ?_|refine zF h2 ?_|(refine zI ?_;intro hlt)|(refine zC ?_ ?_<;>first|intro h|simp)|fail)
  all_goals first
   |exact absurd hL2 (by omega)
   |(rw[qgU hL2 (fun j hj hji=>hC2 j hj hji) (hu.trans (by first|exact decide_eq_true (by omega)|exact decide_eq_false (by omega)|simp_all))]
     exact qb2 rfl)
   |exact⟨hL2,qlN hL2 hC2 (hu.trans (by first|exact decide_eq_true (by omega)|exact decide_eq_false (by omega)|simp_all)),qaa (nx:=0) (k:=0) (ns:=[]) (ks:=[50,49,48,2,0]) [] rfl (by simp) (by kernel_rfl)⟩
   |trace_state
 repeat'(first|((with_reducible apply qao);rfl;rfl)|refine zS ?_|refine zA ?_|(refine zI ?_;intro hlt)|(refine zC ?_ ?_<;>first|intro h|simp)|fail)
 all_goals try exact absurd (show i2<cells.length by omega) hL2
 rw[qgV (fun j hj=>hC2 j hj (by omega)),Option.none_or]
 refine qad low.length (fun i=>⟨[(70,.int .i64 i),(69,.int .i64 low.length),(68,.sl (low.map qcx)),(2,.int .i64 cells[0]),(0,.ptr (qbz s b c (dredOf s c.dredger) cells a low f t))],[],0,138⟩) (fun i=>∀j (hj:j<low.length),j<i→qp3 b c (dredOf s c.dredger) low[j]=false) (qaa (nx:=0) (k:=0) (ns:=[]) (ks:=[70,69,68,2,0]) [] rfl (by simp) (by kernel_rfl)) (by omega) ?_
 intro i3 hi3 hC3
 by_cases hL3:i3<low.length
 ·obtain⟨hil,hlv1,hlv2⟩:=hlo i3 hL3
  have hlv:=qbv hil
  have hbd: -20000≤b.levels[low[i3]]∧b.levels[low[i3]]≤30000:=by rcases hb.ok.lvl _ hil with h|h
                                                                 ·omega
                                                                 ·have:=of_decide_eq_true h;omega
  have hdd:=hc.lvl
  have hu:qp3 b c (dredOf s c.dredger) low[i3]=decide ((dredOf s c.dredger).bite<b.levels[low[i3]]-c.level):=by rw[qp3,hlv]
  repeat'(first|((with_reducible (show evG _ _ (.region 15 _ _) _ _));(with_reducible apply(qdR 22));kernel_rfl;rfl)|((with_reducible apply qao);rfl;rfl)|(with_reducible apply qaW)|(with_reducible apply qbQ)|(with_reducible apply qbu)|(((with_reducible apply qck);rfl;(exact hM _ _ _);rfl;rfl)<;>(intro h;try simp only[decide_eq_true_eq,decide_eq_false_iff_not,Bool.not_eq_true',Bool.not_eq_false',Bool.not_true,Bool.not_false]at h;try exact absurd trivial h))|refine zS ?_|refine zA ?_|(refine zI ?_;intro hlt)|(refine zC ?_ ?_<;>first|intro h|simp)|fail)
  all_goals first
   |exact absurd hL3 (by omega)
   |(rw[qgU hL3 (fun j hj hji=>hC3 j hj hji) (hu.trans (by first|exact decide_eq_true (by omega)|exact decide_eq_false (by omega)|simp_all))]
     exact qb2 rfl)
   |exact⟨hL3,qlN hL3 hC3 (hu.trans (by first|exact decide_eq_true (by omega)|exact decide_eq_false (by omega)|simp_all)),qaa (nx:=0) (k:=0) (ns:=[]) (ks:=[70,69,68,2,0]) [] rfl (by simp) (by kernel_rfl)⟩
   |trace_state
 repeat'(first|((with_reducible apply qao);rfl;rfl)|refine zS ?_|refine zA ?_|(refine zI ?_;intro hlt)|(refine zC ?_ ?_<;>first|intro h|simp)|fail)
 all_goals try exact absurd (show i3<low.length by omega) hL3
 rw[qgV (fun j hj=>hC3 j hj (by omega)),Option.none_or]
 refine qad low.length (fun i=>⟨[(103,.int .i64 i),(102,.int .i64 low.length),(101,.sl (low.map qcx)),(2,.int .i64 cells[0]),(0,.ptr (qbz s b c (dredOf s c.dredger) cells a low f t))],[],0,138⟩) (fun i=>∀j (hj:j<low.length),j<i→qmt s b c low[j]=false) (qaa (nx:=0) (k:=0) (ns:=[]) (ks:=[103,102,101,2,0]) [] rfl (by simp) (by kernel_rfl)) (by omega) ?_
 intro i4 hi4 hC4
 by_cases hL4:i4<low.length
 ·obtain⟨hil,hlv1,hlv2⟩:=hlo i4 hL4
  have h2:=qx2 s hz hs b hb c hc cells a low f t low[i4] hil hlv1 hlv2
  have hu:qmt s b c low[i4]= !qen s b c low[i4]:=rfl
  repeat'(first|((with_reducible apply qao);rfl;rfl)|(with_reducible apply qaW)|(with_reducible apply qbQ)|(with_reducible apply qbu)|(((with_reducible apply qck);rfl;(exact hM _ _ _);rfl;rfl)<;>(intro h;try simp only[decide_eq_true_eq,decide_eq_false_iff_not,Bool.not_eq_true',Bool.not_eq_false',Bool.not_true,Bool.not_false]at h;try exact absurd trivial h))|refine zS ?_|refine zA ?_|refine zF h2 ?_|(refine zI ?_;intro hlt)|(refine zC ?_ ?_<;>first|intro h|simp)|(refine zG ?_ ?_<;>first|intro h|simp)|fail)
  all_goals first
   |exact absurd hL4 (by omega)
   |(rw[qgU hL4 (fun j hj hji=>hC4 j hj hji) (hu.trans (by first|exact decide_eq_true (by omega)|exact decide_eq_false (by omega)|simp_all))]
     exact qb2 rfl)
   |exact⟨hL4,qlN hL4 hC4 (hu.trans (by first|exact decide_eq_true (by omega)|exact decide_eq_false (by omega)|simp_all)),qaa (nx:=0) (k:=0) (ns:=[]) (ks:=[103,102,101,2,0]) [] rfl (by simp) (by kernel_rfl)⟩
   |trace_state
 repeat'(first|((with_reducible apply qao);rfl;rfl)|refine zS ?_|refine zA ?_|(refine zI ?_;intro hlt)|(refine zC ?_ ?_<;>first|intro h|simp)|(refine zG ?_ ?_<;>first|intro h|simp)|fail)
 all_goals try exact absurd (show i4<low.length by omega) hL4
 all_goals rw[qgV (fun j hj=>hC4 j hj (by omega)),Option.none_or]
 repeat'(first|(with_reducible apply qaW)|(((with_reducible apply qck);rfl;(exact hM _ _ _);rfl;rfl)<;>(intro h;try simp only[decide_eq_true_eq,decide_eq_false_iff_not,Bool.not_eq_true',Bool.not_eq_false',Bool.not_true,Bool.not_false]at h;try exact absurd trivial h))|refine zA ?_|fail)
 all_goals first
  |exact absurd (show false=true by assumption) (by decide)
  |(rw[if_pos (by omega)];exact qke)
  |(rw[if_neg (by omega)];exact qb2 rfl)
  |trace_state
end Go.Pv.Soil

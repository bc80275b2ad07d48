import Derived.Test.YtfklpkgdobdbpaaGreatCAK
/- Part of the proofs over YtfklpkgdobdbpaaGreat: S23. -/
set_option linter.unusedVariables false
set_option linter.unusedSimpArgs false
set_option linter.unnecessarySimpa false
open Go Go.Proofs Go.Pv
set_option maxHeartbeats 8000000
set_option maxRecDepth 100000
set_option linter.unusedSimpArgs false
set_option linter.unusedVariables false
namespace Go.Pv.Soil
theorem qHX(l:List Int)(hl:l.length<1000000000000)(g:FuncId)(ys:List D)(hst:qmg ys)(hpu:qbV ys=true)(p:Int→Bool)(hf:∀x∈l,Contract Tryz.prog g (.int .i64 x::ys) (.ret (.bool (p x)))):
  Contract Tryz.prog 218 [.sl (l.map qal),.clo (.func g) [] ys] (.ret (.int .i64 (qcs p l))):=by
 refine zT mix Tryz.func218 Tryz.ntmps218 Tryz.results218 rfl rfl rfl ?_;simp only[qab,Nat.reduceAdd]
 repeat'(first|refine zQ ?_|fail)
 have e8:∀i:Nat,(⟨[(8,.int .i64 i),(7,.int .i64 l.length),(0,.sl (l.map qal)),(1,.clo (.func g) [] (qhb [] ys))],[],0,19⟩:St)=⟨[(8,.int .i64 i),(7,.int .i64 l.length),(0,.sl (l.map qal)),(1,.clo (.func g) [] ys)],[],0,19⟩:=fun i=>by rw[qbE hpu]
 refine qad l.length (fun i=>⟨[(8,.int .i64 i),(7,.int .i64 l.length),(0,.sl (l.map qal)),(1,.clo (.func g) [] ys)],[],0,19⟩) (fun i=>∀j (hj:j<i) (hj':j<l.length),p l[j]=false) (qaa (k:=0) (ns:=[]) (ks:=[8,7,0,1]) [] rfl (by simp) (e8 _)) (by omega) ?_
 intro i hi hC
 repeat'(first|refine zQ ?_|(refine zI ?_;intro hlt)|(refine zC ?_ ?_<;>first|intro h|simp)|refine zE ?_|fail)
 ·refine qa3 rfl rfl hst (hf l[i] (List.getElem_mem _)) rfl ?_
  repeat'(first|refine zQ ?_|(refine zC ?_ ?_<;>first|intro h|simp)|refine zE ?_|fail)
  ·have h2:i<l.length:=by omega
   exact(qa1 h2 h fun j hj=>hC j hj (by omega)).symm
  ·have h2:i<l.length:=by omega
   refine⟨by omega,fun j hj hj'=>?_,qaa (k:=0) (ns:=[]) (ks:=[8,7,0,1]) [] rfl (by simp) (e8 _)⟩
   rcases Nat.lt_succ_iff_lt_or_eq.1 hj with h'|rfl
   ·exact hC j h' hj'
   ·exact h
 ·refine(qa8 fun x hx=>?_).symm
  obtain⟨j,hj,rfl⟩:=List.mem_iff_getElem.1 hx
  exact hC j (by omega) hj
theorem qCN(l:List Int)(hl:l.length<1000000000000)(g:FuncId)(ys:List D)(hst:qmg ys)(hpu:qbV ys=true)(p:Int→Bool)(hf:∀x∈l,Contract Tryz.prog g (.int .i64 x::ys) (.ret (.bool (p x)))):
  Contract Tryz.prog 157 [.sl (l.map qal),.clo (.func g) [] ys] (.ret (.bool (l.any p))):=by
 refine zT mix Tryz.func157 Tryz.ntmps157 Tryz.results157 rfl rfl rfl ?_;simp only[qab,Nat.reduceAdd]
 repeat'(first|refine zQ ?_|fail)
 refine qaj (args':=[.sl (l.map qal),.clo (.func g) [] ys]) ?_ (qHX l hl g ys hst hpu p hf) rfl ?_
 ·have e:=hst (lkH []) 45
  simp only[List.map_cons,List.map_nil,qac,lkE,qbX,pur,Option.bind_some,Option.map_some,Nat.reduceEqDiff,if_true,if_false,e]
 repeat'(first|refine zA ?_|refine zE ?_|fail)
 exact qcZ
theorem qLV(n lo hi:Int):Contract Tryz.prog 219 [.int .i64 n,.ptr [.int .i64 lo],.ptr [.int .i64 hi]] (.ret (.bool (decide (n<lo∨hi<n)))):=by
 refine zT mix Tryz.func219 Tryz.ntmps219 Tryz.results219 rfl rfl rfl ?_;simp only[qab,Nat.reduceAdd]
 repeat'(first|refine zQ ?_|(refine zG ?_ ?_<;>first|intro h|simp)|refine zE ?_|fail)
 ·exact decide_eq_decide.2 (by omega)
 ·exact(decide_eq_true (.inl h)).symm
def qD5(lo hi:Int)(l:List Int):Bool:= !l.any fun n=>decide (n<lo∨hi<n)
theorem qKl(lo hi:Int)(l:List Int)(hl:l.length<1000000000000):Contract Tryz.prog 159 [.int .i64 lo,.int .i64 hi,.sl (l.map qal)] (.ret (.bool (qD5 lo hi l))):=by
 refine zT mix Tryz.func159 Tryz.ntmps159 Tryz.results159 rfl rfl rfl ?_;simp only[qab,Nat.reduceAdd]
 repeat'(first|refine zQ ?_|fail)
 refine qae (args':=[.sl (l.map qal),.clo (.func 219) [] [.ptr [.int .i64 lo],.ptr [.int .i64 hi]]]) rfl (qCN l hl 219 _ (fun _ _=>rfl) rfl (fun n=>decide (n<lo∨hi<n)) fun x _=>qLV x lo hi) rfl ?_
 repeat'(first|refine zA ?_|refine zE ?_|fail)
 rfl
theorem qE3(lo hi n:Int):qD5 lo hi [n]=decide (lo≤n∧n≤hi):=by
 simp only[qD5,List.any_cons,List.any_nil,Bool.or_false,←decide_not]
 exact decide_eq_decide.2 (by omega)
theorem qE4(lo hi n m:Int):qD5 lo hi [n,m]=decide ((lo≤n∧n≤hi)∧(lo≤m∧m≤hi)):=by
 simp only[qD5,List.any_cons,List.any_nil,Bool.or_false,Bool.not_or,←decide_not,←Bool.decide_and]
 exact decide_eq_decide.2 (by omega)
theorem qzR(lo hi n:Int):Contract Tryz.prog 159 [.int .i64 lo,.int .i64 hi,.sl [[.int .i64 n]]] (.ret (.bool (decide (lo≤n∧n≤hi)))):=qE3 lo hi n▸qKl lo hi [n] (by simp)
theorem qBo(lo hi n m:Int):Contract Tryz.prog 159 [.int .i64 lo,.int .i64 hi,.sl [[.int .i64 n],[.int .i64 m]]] (.ret (.bool (decide ((lo≤n∧n≤hi)∧(lo≤m∧m≤hi))))):=qE4 lo hi n m▸qKl lo hi [n,m] (by simp)
theorem qLW(n:Int):Contract Tryz.prog 161 [.int .i64 n] (.ret (.bool (qhQ n))):=by
 refine zT mix Tryz.func161 Tryz.ntmps161 Tryz.results161 rfl rfl rfl ?_;simp only[qab,Nat.reduceAdd]
 repeat'(first|((with_reducible apply qae);rfl;(exact qzR _ _ _);rfl)|refine zQ ?_|refine zE ?_|fail)
 rfl
def qhC(n:Int):Bool:=decide (n≠30000)&& !qhQ n
theorem qLX(n:Int):Contract Tryz.prog 160 [.int .i64 n] (.ret (.bool (qhC n))):=by
 refine zT mix Tryz.func160 Tryz.ntmps160 Tryz.results160 rfl rfl rfl ?_;simp only[qab,Nat.reduceAdd]
 repeat'(first|((with_reducible apply qae);rfl;(exact qLW _);rfl)|refine zQ ?_|(refine zG ?_ ?_<;>first|intro h|simp)|refine zE ?_|fail)
 ·simp[qhC,h]
 ·simp[qhC,h]
structure Grid where
 x:Int
 y:Int
 side:Int
 cols:Int
 rows:Int
 levels:List Int
def qag(g:Grid):List D:=[.int .i64 g.x,.int .i64 g.y,.int .i64 g.side,.int .i64 g.cols,.int .i64 g.rows,.sl (g.levels.map qal)]
def qa2(g:Grid):Int:=
 if ¬(((-1000000≤g.x∧g.x≤1000000)∧ -1000000≤g.y∧g.y≤1000000)∧(100≤g.side∧g.side≤10000)∧(1≤g.cols∧g.cols≤1024)∧1≤g.rows∧g.rows≤1024)then 2
 else if 1024<g.cols*g.rows then 8
 else if 1000000<g.x+g.cols*g.side∨1000000<g.y+g.rows*g.side then 2
 else if(g.levels.length:Int)≠g.cols*g.rows then 10
 else if g.levels.any qhC then 2 else 0
theorem qlp{a b m n:Int}(ha:1≤a∧a≤m)(hb:1≤b∧b≤n):1≤a*b∧a*b≤m*n:=by
 constructor
 ·exact Int.le_trans (by decide:(1:Int)≤1*1) (Int.mul_le_mul ha.1 hb.1 (by omega) (by omega))
 ·exact Int.mul_le_mul ha.2 hb.2 (by omega) (by omega)
theorem qD6(g:Grid)(hl:g.levels.length<1000000000000):Contract Tryz.prog 86 [.agg (qag g)] (.ret (.int .i64 (qa2 g))):=by
 by_cases hg:((-1000000≤g.x∧g.x≤1000000)∧ -1000000≤g.y∧g.y≤1000000)∧(100≤g.side∧g.side≤10000)∧(1≤g.cols∧g.cols≤1024)∧1≤g.rows∧g.rows≤1024
 ·have b1:=qlp hg.2.2.1 hg.2.2.2
  have b2:=qlp hg.2.2.1 (b:=g.side) (n:=10000) (by omega)
  have b3:=qlp hg.2.2.2 (b:=g.side) (n:=10000) (by omega)
  refine zT mix Tryz.func86 Tryz.ntmps86 Tryz.results86 rfl rfl rfl ?_;simp only[qab,Nat.reduceAdd]
  repeat'(first|((with_reducible (show qap _ (.call _) _ _ _ _));first|((with_reducible apply qae);rfl;(exact qzR _ _ _);rfl)|((with_reducible apply qae);rfl;(exact qBo _ _ _ _);rfl)|((with_reducible apply qae);rfl;(exact qKk g.levels hl 160 qhC fun x _=>qLX x);rfl))|refine zQ ?_|(refine zC ?_ ?_<;>first|intro h|simp)|(refine zG ?_ ?_<;>first|intro h|simp)|refine zE ?_|fail)
  all_goals (unfold qa2;(repeat' split)<;>first|rfl|(exfalso;omega)|(exfalso;simp_all;done))
 ·have e:qa2 g=2:=by unfold qa2;rw[if_pos hg]
  rw[e]
  refine zT mix Tryz.func86 Tryz.ntmps86 Tryz.results86 rfl rfl rfl ?_;simp only[qab,Nat.reduceAdd]
  repeat'(first|((with_reducible (show qap _ (.call _) _ _ _ _));first|((with_reducible apply qae);rfl;(exact qzR _ _ _);rfl)|((with_reducible apply qae);rfl;(exact qBo _ _ _ _);rfl))|(with_reducible rfl)|refine zQ ?_|(refine zC ?_ ?_<;>first|intro h|simp)|(refine zG ?_ ?_<;>first|intro h|simp)|refine zE ?_|fail)
  all_goals first|rfl|(exfalso;omega)
def qbR(a b:Grid):Bool:=decide (a.x=b.x∧a.y=b.y∧a.side=b.side∧a.cols=b.cols∧a.rows=b.rows)
theorem qLY(a b:Grid):Contract Tryz.prog 259 [.agg (qag a),.agg (qag b)] (.ret (.bool (qbR a b))):=by
 refine zT mix Tryz.func259 Tryz.ntmps259 Tryz.results259 rfl rfl rfl ?_;simp only[qab,Nat.reduceAdd]
 repeat'(first|refine zQ ?_|(refine zG ?_ ?_<;>first|intro h|simp)|refine zE ?_|fail)
 all_goals simp[qbR, *]
theorem c28(g:Grid)(hl:g.levels.length<1000000000000):Contract Tryz.prog 97 [.agg (qag g)] (.ret (.int .i64 (qa2 g))):=by
 by_cases hg:((-1000000≤g.x∧g.x≤1000000)∧ -1000000≤g.y∧g.y≤1000000)∧(100≤g.side∧g.side≤10000)∧(1≤g.cols∧g.cols≤1024)∧1≤g.rows∧g.rows≤1024
 ·have b1:=qlp hg.2.2.1 hg.2.2.2
  have b2:=qlp hg.2.2.1 (b:=g.side) (n:=10000) (by omega)
  have b3:=qlp hg.2.2.2 (b:=g.side) (n:=10000) (by omega)
  refine zT mix Tryz.func97 Tryz.ntmps97 Tryz.results97 rfl rfl rfl ?_;simp only[qab,Nat.reduceAdd]
  repeat'(first|((with_reducible apply qae);rfl;(exact c38 _ _ _);rfl)|refine zQ ?_|(refine zC ?_ ?_<;>first|intro h|simp)|(refine zG ?_ ?_<;>first|intro h|simp)|refine zE ?_|fail)
  all_goals first|(unfold qa2;(repeat' split)<;>first|rfl|(exfalso;omega)|(exfalso;simp_all;done))|skip
  have e:qa2 g=if g.levels.any qhC then 2 else 0:=by
   unfold qa2;rw[if_neg (by omega),if_neg (by omega),if_neg (by omega),if_neg (by omega)]
  rw[e]
  refine qad (g.levels.length) (fun i=>⟨[(3,.int .i64 i),(1,.op 0 0 0)],[(0,⟨6,true,[qag g]⟩)],32,89⟩) (fun i=>∀j (hj:j<i) (hj':j<g.levels.length),qhC g.levels[j]=false) (qaa (k:=0) (ns:=[]) (ks:=[3,1]) [(0,0)] rfl (by simp) rfl) (fun j h _=>absurd h (Nat.not_lt_zero _)) ?_
  intro i hi hC
  repeat'(first|((with_reducible apply qae);rfl;(exact c48 _);rfl)|refine zQ ?_|(refine zI ?_;intro hlt)|(refine zC ?_ ?_<;>first|intro h|simp)|(refine zG ?_ ?_<;>first|intro h|simp)|refine zE ?_|fail)
  ·have h1:¬g.levels[i]=30000:=by assumption
   rw[if_pos (List.any_eq_true.2 ⟨g.levels[i],List.getElem_mem _,by simp[qhC,h,h1]⟩)]
  ·have h2:i<g.levels.length:=by omega
   refine⟨h2,fun j hj hj'=>?_,qaa (k:=0) (ns:=[]) (ks:=[3,1]) [(0,0)] rfl (by simp) rfl⟩
   rcases Nat.lt_succ_iff_lt_or_eq.1 hj with h'|rfl
   ·exact hC j h' hj'
   ·simp[qhC,h]
  ·have h2:i<g.levels.length:=by omega
   refine⟨h2,fun j hj hj'=>?_,qaa (k:=0) (ns:=[]) (ks:=[3,1]) [(0,0)] rfl (by simp) rfl⟩
   rcases Nat.lt_succ_iff_lt_or_eq.1 hj with h'|rfl
   ·exact hC j h' hj'
   ·simp[qhC,h]
  ·rw[if_neg]
   intro hh
   obtain⟨x,hx,hb⟩:=List.any_eq_true.1 hh
   obtain⟨j,hj,rfl⟩:=List.mem_iff_getElem.1 hx
   rw[hC j (by omega) hj]at hb
   cases hb
 ·have e:qa2 g=2:=by unfold qa2;rw[if_pos hg]
  rw[e]
  refine zT mix Tryz.func97 Tryz.ntmps97 Tryz.results97 rfl rfl rfl ?_;simp only[qab,Nat.reduceAdd]
  repeat'(first|((with_reducible apply qae);rfl;(exact c38 _ _ _);rfl)|(with_reducible rfl)|refine zQ ?_|(refine zC ?_ ?_<;>first|intro h|simp)|(refine zG ?_ ?_<;>first|intro h|simp)|refine zE ?_|fail)
  all_goals first|rfl|(exfalso;omega)
end Go.Pv.Soil

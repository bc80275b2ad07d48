import Derived.Test.YtfklpkgdobdbpaaGreatCAQ
/- Part of the proofs over YtfklpkgdobdbpaaGreat: S26, N4, S27. -/
set_option linter.unusedVariables false
set_option linter.unusedSimpArgs false
set_option linter.unnecessarySimpa false
open Go Go.Proofs Go.Pv
set_option maxHeartbeats 8000000
set_option maxRecDepth 100000
set_option linter.unusedSimpArgs false
set_option linter.unusedVariables false
namespace Go.Pv.Soil
theorem qHY(n:Int)(h: -1000000000000000≤n∧n≤1000000000000000):Contract Tryz.prog 136 [.int .i64 n] (.ret (.int .i64 n.natAbs)):=by
 refine zT mix Tryz.func136 Tryz.ntmps136 Tryz.results136 rfl rfl rfl ?_;simp only[qab,Nat.reduceAdd]
 repeat'(first|refine zQ ?_|(refine zC ?_ ?_<;>first|intro h|simp)|refine zE ?_|fail)
 all_goals (simp at *;omega)
theorem c79(a b:List Int)(ha:a.length<1000000000000):Contract Tryz.prog 38 [.sl (a.map qal),.sl (b.map qal)] (.ret (.bool (decide (a=b)))):=by
 refine zT mix Tryz.func38 Tryz.ntmps38 Tryz.results38 rfl rfl rfl ?_;simp only[qab,Nat.reduceAdd]
 repeat'(first|refine zQ ?_|(refine zC ?_ ?_<;>first|intro h|simp)|refine zE ?_|fail)
 ·symm;simp only[decide_eq_false_iff_not];rintro rfl;exact h rfl
 ·have hl:a.length=b.length:=by omega
  refine qad a.length (fun i=>⟨[(5,.int .i64 i),(0,.sl (a.map qal)),(1,.sl (b.map qal))],[],0,26⟩) (fun i=>a.take i=b.take i) (qaa (k:=0) (ns:=[]) (ks:=[5,0,1]) [] rfl (by simp) rfl) rfl ?_
  intro i hi hC
  repeat'(first|refine zQ ?_|(refine zI ?_;intro hlt)|(refine zC ?_ ?_<;>first|intro h|simp)|refine zE ?_|fail)
  ·try simp only[Int.toNat_natCast]at h
   symm
   simp only[decide_eq_false_iff_not]
   rintro rfl
   exact h rfl
  ·have h2:i<a.length:=by omega
   have h3:i<b.length:=by omega
   try simp only[Int.toNat_natCast]at h
   refine⟨by omega,?_,qaa (k:=0) (ns:=[]) (ks:=[5,0,1]) [] rfl (by simp) rfl⟩
   rw[List.take_succ_eq_append_getElem h2,List.take_succ_eq_append_getElem h3,hC,h]
  ·have e:i=a.length:=by omega
   subst e
   rw[List.take_of_length_le (Nat.le_refl _),List.take_of_length_le (by omega)]at hC
   simp[hC]
def qxb(a b:Grid):Bool:=qbR a b&&decide (a.levels=b.levels)
theorem c32(a b:Grid)(ha:a.levels.length<1000000000000):Contract Tryz.prog 49 [.agg (qag a),.agg (qag b)] (.ret (.bool (qxb a b))):=by
 refine zT mix Tryz.func49 Tryz.ntmps49 Tryz.results49 rfl rfl rfl ?_;simp only[qab,Nat.reduceAdd]
 repeat'(first|((with_reducible apply qae);rfl;(exact c79 _ _ ha);rfl)|refine zQ ?_|(refine zG ?_ ?_<;>first|intro h|simp)|refine zE ?_|fail)
 all_goals simp[qxb,qbR, *]
def qbl(g:Grid)(i k:Nat):Bool:=decide (((i:Int)%g.cols-(k:Int)%g.cols).natAbs+((i:Int)/g.cols-(k:Int)/g.cols).natAbs=1)
theorem c61(g:Grid)(h:OkGrid g)(i k:Nat)(hi:i<g.levels.length)(hk:k<g.levels.length):Contract Tryz.prog 153 [.agg (qag g),.int .i64 i,.int .i64 k] (.ret (.bool (qbl g i k))):=by
 have hb:=h.bds
 have hc:=qdn h hi
 have hd:=qdn h hk
 have hs:=h.small
 have e1:=qHY ((i:Int)%g.cols-(k:Int)%g.cols) (by omega)
 have e2:=qHY ((i:Int)/g.cols-(k:Int)/g.cols) (by omega)
 refine zT mix Tryz.func153 Tryz.ntmps153 Tryz.results153 rfl rfl rfl ?_;simp only[qab,Nat.reduceAdd]
 repeat'(first|refine zQ ?_|refine zF e1 ?_|refine zF e2 ?_|refine zE ?_|fail)
 all_goals exact decide_eq_decide.2 (by omega)
theorem qCR(l:List Outp)(hl:l.length<1000000000000)(g:FuncId)(ys:List D)(hst:qmg ys)(hpu:qbV ys=true)(p:Outp→Bool)(hf:∀x∈l,Contract Tryz.prog g (.agg (qb3 x)::ys) (.ret (.bool (p x)))):
  Contract Tryz.prog 251 [.sl (l.map qb3),.clo (.func g) [] ys] (.ret (.int .i64 (qcs p l))):=by
 refine zT mix Tryz.func251 Tryz.ntmps251 Tryz.results251 rfl rfl rfl ?_;simp only[qab,Nat.reduceAdd]
 repeat'(first|refine zQ ?_|fail)
 have e8:∀i:Nat,(⟨[(8,.int .i64 i),(7,.int .i64 l.length),(0,.sl (l.map qb3)),(1,.clo (.func g) [] (qhb [] ys))],[],0,19⟩:St)=⟨[(8,.int .i64 i),(7,.int .i64 l.length),(0,.sl (l.map qb3)),(1,.clo (.func g) [] ys)],[],0,19⟩:=fun i=>by rw[qbE hpu]
 refine qad l.length (fun i=>⟨[(8,.int .i64 i),(7,.int .i64 l.length),(0,.sl (l.map qb3)),(1,.clo (.func g) [] ys)],[],0,19⟩) (fun i=>∀j (hj:j<i) (hj':j<l.length),p l[j]=false) (qaa (k:=0) (ns:=[]) (ks:=[8,7,0,1]) [] rfl (by simp) (e8 _)) (by omega) ?_
 intro i hi hC
 repeat'(first|refine zQ ?_|(refine zI ?_;intro hlt)|(refine zC ?_ ?_<;>first|intro h|simp)|refine zE ?_|fail)
 ·refine qa3 (d1:=.agg (qb3 l[i])) rfl rfl hst (hf l[i] (List.getElem_mem _)) rfl ?_
  repeat'(first|refine zQ ?_|(refine zC ?_ ?_<;>first|intro h|simp)|refine zE ?_|fail)
  ·have h2:i<l.length:=by omega
   exact(qa1 h2 h fun j hj=>hC j hj (by omega)).symm
  ·have h2:i<l.length:=by omega
   refine⟨by omega,fun j hj hj'=>?_,qaa (k:=0) (ns:=[]) (ks:=[8,7,0,1]) [] rfl (by simp) (e8 _)⟩
   rcases Nat.lt_succ_iff_lt_or_eq.1 hj with h'|rfl
   ·exact hC j h' hj'
   ·exact h
 ·refine(qa8 fun x hx=>?_).symm
  obtain⟨j,hj,rfl⟩:=List.mem_iff_getElem.1 hx
  exact hC j (by omega) hj
theorem qzV(l:List Dred)(hl:l.length<1000000000000)(g:FuncId)(ys:List D)(hst:qmg ys)(hpu:qbV ys=true)(p:Dred→Bool)(hf:∀x∈l,Contract Tryz.prog g (.agg (qa4 x)::ys) (.ret (.bool (p x)))):
  Contract Tryz.prog 239 [.sl (l.map qa4),.clo (.func g) [] ys] (.ret (.int .i64 (qcs p l))):=by
 refine zT mix Tryz.func239 Tryz.ntmps239 Tryz.results239 rfl rfl rfl ?_;simp only[qab,Nat.reduceAdd]
 repeat'(first|refine zQ ?_|fail)
 have e8:∀i:Nat,(⟨[(8,.int .i64 i),(7,.int .i64 l.length),(0,.sl (l.map qa4)),(1,.clo (.func g) [] (qhb [] ys))],[],0,19⟩:St)=⟨[(8,.int .i64 i),(7,.int .i64 l.length),(0,.sl (l.map qa4)),(1,.clo (.func g) [] ys)],[],0,19⟩:=fun i=>by rw[qbE hpu]
 refine qad l.length (fun i=>⟨[(8,.int .i64 i),(7,.int .i64 l.length),(0,.sl (l.map qa4)),(1,.clo (.func g) [] ys)],[],0,19⟩) (fun i=>∀j (hj:j<i) (hj':j<l.length),p l[j]=false) (qaa (k:=0) (ns:=[]) (ks:=[8,7,0,1]) [] rfl (by simp) (e8 _)) (by omega) ?_
 intro i hi hC
 repeat'(first|refine zQ ?_|(refine zI ?_;intro hlt)|(refine zC ?_ ?_<;>first|intro h|simp)|refine zE ?_|fail)
 ·refine qa3 (d1:=.agg (qa4 l[i])) rfl rfl hst (hf l[i] (List.getElem_mem _)) rfl ?_
  repeat'(first|refine zQ ?_|(refine zC ?_ ?_<;>first|intro h|simp)|refine zE ?_|fail)
  ·have h2:i<l.length:=by omega
   exact(qa1 h2 h fun j hj=>hC j hj (by omega)).symm
  ·have h2:i<l.length:=by omega
   refine⟨by omega,fun j hj hj'=>?_,qaa (k:=0) (ns:=[]) (ks:=[8,7,0,1]) [] rfl (by simp) (e8 _)⟩
   rcases Nat.lt_succ_iff_lt_or_eq.1 hj with h'|rfl
   ·exact hC j h' hj'
   ·exact h
 ·refine(qa8 fun x hx=>?_).symm
  obtain⟨j,hj,rfl⟩:=List.mem_iff_getElem.1 hx
  exact hC j (by omega) hj
theorem qCS(l:List Gauge)(hl:l.length<1000000000000)(g:FuncId)(ys:List D)(hst:qmg ys)(hpu:qbV ys=true)(p:Gauge→Bool)(hf:∀x∈l,Contract Tryz.prog g (.agg (qax x)::ys) (.ret (.bool (p x)))):
  Contract Tryz.prog 230 [.sl (l.map qax),.clo (.func g) [] ys] (.ret (.int .i64 (qcs p l))):=by
 refine zT mix Tryz.func230 Tryz.ntmps230 Tryz.results230 rfl rfl rfl ?_;simp only[qab,Nat.reduceAdd]
 repeat'(first|refine zQ ?_|fail)
 have e8:∀i:Nat,(⟨[(8,.int .i64 i),(7,.int .i64 l.length),(0,.sl (l.map qax)),(1,.clo (.func g) [] (qhb [] ys))],[],0,19⟩:St)=⟨[(8,.int .i64 i),(7,.int .i64 l.length),(0,.sl (l.map qax)),(1,.clo (.func g) [] ys)],[],0,19⟩:=fun i=>by rw[qbE hpu]
 refine qad l.length (fun i=>⟨[(8,.int .i64 i),(7,.int .i64 l.length),(0,.sl (l.map qax)),(1,.clo (.func g) [] ys)],[],0,19⟩) (fun i=>∀j (hj:j<i) (hj':j<l.length),p l[j]=false) (qaa (k:=0) (ns:=[]) (ks:=[8,7,0,1]) [] rfl (by simp) (e8 _)) (by omega) ?_
 intro i hi hC
 repeat'(first|refine zQ ?_|(refine zI ?_;intro hlt)|(refine zC ?_ ?_<;>first|intro h|simp)|refine zE ?_|fail)
 ·refine qa3 (d1:=.agg (qax l[i])) rfl rfl hst (hf l[i] (List.getElem_mem _)) rfl ?_
  repeat'(first|refine zQ ?_|(refine zC ?_ ?_<;>first|intro h|simp)|refine zE ?_|fail)
  ·have h2:i<l.length:=by omega
   exact(qa1 h2 h fun j hj=>hC j hj (by omega)).symm
  ·have h2:i<l.length:=by omega
   refine⟨by omega,fun j hj hj'=>?_,qaa (k:=0) (ns:=[]) (ks:=[8,7,0,1]) [] rfl (by simp) (e8 _)⟩
   rcases Nat.lt_succ_iff_lt_or_eq.1 hj with h'|rfl
   ·exact hC j h' hj'
   ·exact h
 ·refine(qa8 fun x hx=>?_).symm
  obtain⟨j,hj,rfl⟩:=List.mem_iff_getElem.1 hx
  exact hC j (by omega) hj
theorem qCT(l:List Gauge)(hl:l.length<1000000000000)(g:FuncId)(ys:List D)(hst:qmg ys)(hpu:qbV ys=true)(p:Gauge→Bool)(hf:∀x∈l,Contract Tryz.prog g (.agg (qax x)::ys) (.ret (.bool (p x)))):
  Contract Tryz.prog 169 [.sl (l.map qax),.clo (.func g) [] ys] (.ret (.bool (l.any p))):=by
 refine zT mix Tryz.func169 Tryz.ntmps169 Tryz.results169 rfl rfl rfl ?_;simp only[qab,Nat.reduceAdd]
 repeat'(first|refine zQ ?_|fail)
 refine qaj (args':=[.sl (l.map qax),.clo (.func g) [] ys]) ?_ (qCS l hl g ys hst hpu p hf) rfl ?_
 ·have e:=hst (lkH []) 45
  simp only[List.map_cons,List.map_nil,qac,lkE,qbX,pur,Option.bind_some,Option.map_some,Nat.reduceEqDiff,if_true,if_false,e]
 repeat'(first|refine zA ?_|refine zE ?_|fail)
 exact qcZ
theorem qsL(l:List qe7)(hl:l.length<1000000000000)(g:FuncId)(ys:List D)(hst:qmg ys)(hpu:qbV ys=true)(p:qe7→Bool)(hf:∀x∈l,Contract Tryz.prog g (.agg (qbw x)::ys) (.ret (.bool (p x)))):
  Contract Tryz.prog 143 [.sl (l.map qbw),.clo (.func g) [] ys] (.ret (.int .i64 (qcs p l))):=by
 refine zT mix Tryz.func143 Tryz.ntmps143 Tryz.results143 rfl rfl rfl ?_;simp only[qab,Nat.reduceAdd]
 repeat'(first|refine zQ ?_|fail)
 have e8:∀i:Nat,(⟨[(8,.int .i64 i),(7,.int .i64 l.length),(0,.sl (l.map qbw)),(1,.clo (.func g) [] (qhb [] ys))],[],0,19⟩:St)=⟨[(8,.int .i64 i),(7,.int .i64 l.length),(0,.sl (l.map qbw)),(1,.clo (.func g) [] ys)],[],0,19⟩:=fun i=>by rw[qbE hpu]
 refine qad l.length (fun i=>⟨[(8,.int .i64 i),(7,.int .i64 l.length),(0,.sl (l.map qbw)),(1,.clo (.func g) [] ys)],[],0,19⟩) (fun i=>∀j (hj:j<i) (hj':j<l.length),p l[j]=false) (qaa (k:=0) (ns:=[]) (ks:=[8,7,0,1]) [] rfl (by simp) (e8 _)) (by omega) ?_
 intro i hi hC
 repeat'(first|refine zQ ?_|(refine zI ?_;intro hlt)|(refine zC ?_ ?_<;>first|intro h|simp)|refine zE ?_|fail)
 ·refine qa3 (d1:=.agg (qbw l[i])) rfl rfl hst (hf l[i] (List.getElem_mem _)) rfl ?_
  repeat'(first|refine zQ ?_|(refine zC ?_ ?_<;>first|intro h|simp)|refine zE ?_|fail)
  ·have h2:i<l.length:=by omega
   exact(qa1 h2 h fun j hj=>hC j hj (by omega)).symm
  ·have h2:i<l.length:=by omega
   refine⟨by omega,fun j hj hj'=>?_,qaa (k:=0) (ns:=[]) (ks:=[8,7,0,1]) [] rfl (by simp) (e8 _)⟩
   rcases Nat.lt_succ_iff_lt_or_eq.1 hj with h'|rfl
   ·exact hC j h' hj'
   ·exact h
 ·refine(qa8 fun x hx=>?_).symm
  obtain⟨j,hj,rfl⟩:=List.mem_iff_getElem.1 hx
  exact hC j (by omega) hj
theorem qzW(l:List qe7)(hl:l.length<1000000000000)(g:FuncId)(ys:List D)(hst:qmg ys)(hpu:qbV ys=true)(p:qe7→Bool)(hf:∀x∈l,Contract Tryz.prog g (.agg (qbw x)::ys) (.ret (.bool (p x)))):
  Contract Tryz.prog 206 [.sl (l.map qbw),.clo (.func g) [] ys] (.ret (.bool (l.any p))):=by
 refine zT mix Tryz.func206 Tryz.ntmps206 Tryz.results206 rfl rfl rfl ?_;simp only[qab,Nat.reduceAdd]
 repeat'(first|refine zQ ?_|fail)
 refine qaj (args':=[.sl (l.map qbw),.clo (.func g) [] ys]) ?_ (qsL l hl g ys hst hpu p hf) rfl ?_
 ·have e:=hst (lkH []) 45
  simp only[List.map_cons,List.map_nil,qac,lkE,qbX,pur,Option.bind_some,Option.map_some,Nat.reduceEqDiff,if_true,if_false,e]
 repeat'(first|refine zA ?_|refine zE ?_|fail)
 exact qcZ
theorem qzX(l:List Part)(hl:l.length<1000000000000)(g:FuncId)(ys:List D)(hst:qmg ys)(hpu:qbV ys=true)(p:Part→Bool)(hf:∀x∈l,Contract Tryz.prog g (.agg (qbH x)::ys) (.ret (.bool (p x)))):
  Contract Tryz.prog 296 [.sl (l.map qbH),.clo (.func g) [] ys] (.ret (.int .i64 (qcs p l))):=by
 refine zT mix Tryz.func296 Tryz.ntmps296 Tryz.results296 rfl rfl rfl ?_;simp only[qab,Nat.reduceAdd]
 repeat'(first|refine zQ ?_|fail)
 have e8:∀i:Nat,(⟨[(8,.int .i64 i),(7,.int .i64 l.length),(0,.sl (l.map qbH)),(1,.clo (.func g) [] (qhb [] ys))],[],0,19⟩:St)=⟨[(8,.int .i64 i),(7,.int .i64 l.length),(0,.sl (l.map qbH)),(1,.clo (.func g) [] ys)],[],0,19⟩:=fun i=>by rw[qbE hpu]
 refine qad l.length (fun i=>⟨[(8,.int .i64 i),(7,.int .i64 l.length),(0,.sl (l.map qbH)),(1,.clo (.func g) [] ys)],[],0,19⟩) (fun i=>∀j (hj:j<i) (hj':j<l.length),p l[j]=false) (qaa (k:=0) (ns:=[]) (ks:=[8,7,0,1]) [] rfl (by simp) (e8 _)) (by omega) ?_
 intro i hi hC
 repeat'(first|refine zQ ?_|(refine zI ?_;intro hlt)|(refine zC ?_ ?_<;>first|intro h|simp)|refine zE ?_|fail)
 ·refine qa3 (d1:=.agg (qbH l[i])) rfl rfl hst (hf l[i] (List.getElem_mem _)) rfl ?_
  repeat'(first|refine zQ ?_|(refine zC ?_ ?_<;>first|intro h|simp)|refine zE ?_|fail)
  ·have h2:i<l.length:=by omega
   exact(qa1 h2 h fun j hj=>hC j hj (by omega)).symm
  ·have h2:i<l.length:=by omega
   refine⟨by omega,fun j hj hj'=>?_,qaa (k:=0) (ns:=[]) (ks:=[8,7,0,1]) [] rfl (by simp) (e8 _)⟩
   rcases Nat.lt_succ_iff_lt_or_eq.1 hj with h'|rfl
   ·exact hC j h' hj'
   ·exact h
 ·refine(qa8 fun x hx=>?_).symm
  obtain⟨j,hj,rfl⟩:=List.mem_iff_getElem.1 hx
  exact hC j (by omega) hj
theorem qzY(l:List Part)(hl:l.length<1000000000000)(g:FuncId)(ys:List D)(hst:qmg ys)(hpu:qbV ys=true)(p:Part→Bool)(hf:∀x∈l,Contract Tryz.prog g (.agg (qbH x)::ys) (.ret (.bool (p x)))):
  Contract Tryz.prog 273 [.sl (l.map qbH),.clo (.func g) [] ys] (.ret (.bool (l.any p))):=by
 refine zT mix Tryz.func273 Tryz.ntmps273 Tryz.results273 rfl rfl rfl ?_;simp only[qab,Nat.reduceAdd]
 repeat'(first|refine zQ ?_|fail)
 refine qaj (args':=[.sl (l.map qbH),.clo (.func g) [] ys]) ?_ (qzX l hl g ys hst hpu p hf) rfl ?_
 ·have e:=hst (lkH []) 45
  simp only[List.map_cons,List.map_nil,qac,lkE,qbX,pur,Option.bind_some,Option.map_some,Nat.reduceEqDiff,if_true,if_false,e]
 repeat'(first|refine zA ?_|refine zE ?_|fail)
 exact qcZ
theorem qbL:qfm qal 1:=fun _=>⟨rfl,rfl⟩
def qbi(g:Grid)(i:Nat):Nat→List Int
 |0=>[]
 |n+1=>if qbl g i n=true then qbi g i n++[(n:Int)]else qbi g i n
theorem qd0(g:Grid)(i:Nat):∀n,(qbi g i n).length≤n
 |0=>Nat.le_refl _
 |n+1=>by
  have:=qd0 g i n
  simp only[qbi]
  split<;>simp<;>omega
theorem qKn(g:Grid)(h:OkGrid g)(i:Nat)(hi:i<g.levels.length):Contract Tryz.prog 135 [.agg (qag g),.int .i64 i] (.ret (.fr 1 ((qbi g i g.levels.length).map qal))):=by
 have hs:=h.small
 refine zT mix Tryz.func135 Tryz.ntmps135 Tryz.results135 rfl rfl rfl ?_;simp only[qab,Nat.reduceAdd]
 repeat'(first|refine zQ ?_|fail)
 refine qad g.levels.length (fun j=>⟨[(5,.os 1 0 (qbi g i j).length),(6,.int .i64 j),(2,.op 0 0 0),(1,.int .i64 i)],[(1,⟨1,true,(qbi g i j).map qal⟩),(0,⟨6,true,[qag g]⟩)],32,23⟩) (fun j=>True) (qaa (nx:=32) (k:=1) (ns:=[(5,1)]) (ks:=[6,2,1]) [(0,0)] rfl (by simp;rfl) rfl) trivial ?_
 intro j hj hC
 have hlen:=qd0 g i j
 by_cases hlt:j<g.levels.length
 ·have h61:=c61 g h i j hi hlt
  repeat'(first|refine zQ ?_|refine zF h61 ?_|(refine zC ?_ ?_<;>first|intro h|simp)|fail)
  all_goals first
   |(refine qaH (f:=qal) (a:=(j:Int)) (l:=qbi g i j) qbL rfl rfl rfl rfl rfl rfl (by kernel_rfl) (by kernel_rfl) (by omega) rfl ?_)
   |skip
  repeat'(first|refine zQ ?_|fail)
  ·have e:qbi g i (j+1)=qbi g i j++[(j:Int)]:=by show(if _ then _ else _)=_;rw[if_pos h]
   have el:(qbi g i j).length+1=(qbi g i (j+1)).length:=by rw[e];simp
   refine⟨hlt,trivial,?_⟩
   rw[←e,el]
   exact qaa (nx:=32) (k:=1) (ns:=[]) (ks:=[5,6,2,1]) [(1,1),(0,0)] rfl (by simp) rfl
  ·have e:qbi g i (j+1)=qbi g i j:=by show(if _ then _ else _)=_;rw[if_neg (by simp[h])]
   refine⟨hlt,trivial,?_⟩
   rw[e]
   exact qaa (nx:=32) (k:=1) (ns:=[]) (ks:=[5,6,2,1]) [(1,1),(0,0)] rfl (by simp) rfl
  ·exact absurd hlt (by omega)
 ·have e:j=g.levels.length:=by omega
  subst e
  repeat'(first|refine zQ ?_|(refine zC ?_ ?_<;>first|intro h|simp)|fail)
  ·exact absurd ‹_› (by omega)
  ·exact qpp rfl rfl rfl
end Go.Pv.Soil

import Derived.Test.YtfklpkgdobdbpaaGreatCAE
/- Part of the proofs over YtfklpkgdobdbpaaGreat: S2, S3, S4, S5. -/
set_option linter.unusedVariables false
set_option linter.unusedSimpArgs false
set_option linter.unnecessarySimpa false
open Go Go.Proofs Go.Pv
set_option maxHeartbeats 8000000
set_option maxRecDepth 100000
set_option linter.unusedSimpArgs false
set_option linter.unusedVariables false
namespace Go.Pv.Soil
structure Soil where
 name:ByteArray
 a:Int
 b:Int
 r:Int
 h:Int
def qaG(x:Soil):List D:=[.str x.name,.int .i64 x.a,.int .i64 x.b,.int .i64 x.r,.int .i64 x.h]
def qcs{α:Type}(p:α→Bool)(l:List α):Int:=match l.findIdx? p with
 |some i=>i
 |none=> -1
theorem qa8{α:Type}{p:α→Bool}{l:List α}(h:∀x∈l,p x=false):qcs p l= -1:=by
 have:l.findIdx? p=none:=by simpa using h
 rw[qcs,this]
theorem qa1{α:Type}{p:α→Bool}{l:List α}{i:Nat}(hi:i<l.length)(h:p l[i]=true)(hb:∀j (hj:j<i),p (l[j]'(by omega))=false):qcs p l=i:=by
 have:l.findIdx? p=some i:=by
  rw[List.findIdx?_eq_some_iff_getElem]
  exact⟨hi,h,fun j hj=>by simpa using hb j hj⟩
 rw[qcs,this]
theorem qKe(l:List Soil)(hl:l.length<1000000000000)(g:FuncId)(ys:List D)(hst:qmg ys)(hpu:qbV ys=true)(p:Soil→Bool)(hf:∀x∈l,Contract Tryz.prog g (.agg (qaG x)::ys) (.ret (.bool (p x)))):
  Contract Tryz.prog 233 [.sl (l.map qaG),.clo (.func g) [] ys] (.ret (.int .i64 (qcs p l))):=by
 refine zT mix Tryz.func233 Tryz.ntmps233 Tryz.results233 rfl rfl rfl ?_;simp only[qab,Nat.reduceAdd]
 repeat'(first|refine zQ ?_|fail)
 have e8:∀i:Nat,(⟨[(8,.int .i64 i),(7,.int .i64 l.length),(0,.sl (l.map qaG)),(1,.clo (.func g) [] (qhb [] ys))],[],0,19⟩:St)=⟨[(8,.int .i64 i),(7,.int .i64 l.length),(0,.sl (l.map qaG)),(1,.clo (.func g) [] ys)],[],0,19⟩:=fun i=>by rw[qbE hpu]
 refine qad l.length (fun i=>⟨[(8,.int .i64 i),(7,.int .i64 l.length),(0,.sl (l.map qaG)),(1,.clo (.func g) [] ys)],[],0,19⟩) (fun i=>∀j (hj:j<i) (hj':j<l.length),p l[j]=false) (qaa (k:=0) (ns:=[]) (ks:=[8,7,0,1]) [] rfl (by simp) (e8 _)) (by omega) ?_
 intro i hi hC
 repeat'(first|refine zQ ?_|(refine zI ?_;intro hlt)|(refine zC ?_ ?_<;>first|intro h|simp)|refine zE ?_|fail)
 ·refine qa3 rfl rfl hst (hf l[i] (List.getElem_mem _)) rfl ?_
  repeat'(first|refine zQ ?_|(refine zC ?_ ?_<;>first|intro h|simp)|refine zE ?_|fail)
  ·have h2:i<l.length:=by omega
   exact(qa1 h2 h fun j hj=>hC j hj (by omega)).symm
  ·have h2:i<l.length:=by omega
   refine⟨by omega,fun j hj hj'=>?_,qaa (k:=0) (ns:=[]) (ks:=[8,7,0,1]) [] rfl (by simp) (e8 _)⟩
   rcases Nat.lt_succ_iff_lt_or_eq.1 hj with h'|rfl
   ·exact hC j h' hj'
   ·exact h
 ·refine(qa8 fun x hx=>?_).symm
  obtain⟨j,hj,rfl⟩:=List.mem_iff_getElem.1 hx
  exact hC j (by omega) hj
theorem qcZ{α:Type}{p:α→Bool}{l:List α}:decide (0≤qcs p l)=l.any p:=by
 unfold qcs
 cases h:l.findIdx? p with
 |none=>
  have:l.any p=false:=by
   rw[List.findIdx?_eq_none_iff]at h
   rw[List.any_eq_false]
   intro x hx
   simp[h x hx]
  rw[this];rfl
 |some i=>
  have:l.any p=true:=by
   rw[List.findIdx?_eq_some_iff_getElem]at h
   obtain⟨hi,hp,_⟩:=h
   rw[List.any_eq_true]
   exact⟨_,List.getElem_mem hi,hp⟩
  rw[this]
  simp
theorem qKf(l:List Soil)(hl:l.length<1000000000000)(g:FuncId)(ys:List D)(hst:qmg ys)(hpu:qbV ys=true)(p:Soil→Bool)(hf:∀x∈l,Contract Tryz.prog g (.agg (qaG x)::ys) (.ret (.bool (p x)))):
  Contract Tryz.prog 172 [.sl (l.map qaG),.clo (.func g) [] ys] (.ret (.bool (l.any p))):=by
 refine zT mix Tryz.func172 Tryz.ntmps172 Tryz.results172 rfl rfl rfl ?_;simp only[qab,Nat.reduceAdd]
 repeat'(first|refine zQ ?_|fail)
 refine qaj (args':=[.sl (l.map qaG),.clo (.func g) [] ys]) ?_ (qKe l hl g ys hst hpu p hf) rfl ?_
 ·have e:=hst (lkH []) 45
  simp only[List.map_cons,List.map_nil,qac,lkE,qbX,pur,Option.bind_some,Option.map_some,Nat.reduceEqDiff,if_true,if_false,e]
 repeat'(first|refine zA ?_|refine zE ?_|fail)
 exact qcZ
theorem c81(x:Soil):Contract Tryz.prog 221 [.agg (qaG x)] (.ret (.str x.name)):=by
 refine zT mix Tryz.func221 Tryz.ntmps221 Tryz.results221 rfl rfl rfl ?_;simp only[qab,Nat.reduceAdd]
 repeat'(first|(with_reducible rfl)|refine zQ ?_|refine zE ?_|fail)
theorem qLA(x:Soil)(s nm:ByteArray)(g:FuncId)(hn:Contract Tryz.prog g [.agg (qaG x)] (.ret (.str nm))):Contract Tryz.prog 264 [.agg (qaG x),.ptr [.clo (.func g) [] []],.ptr [.str s]] (.ret (.bool (decide (nm=s)))):=by
 refine zT mix Tryz.func264 Tryz.ntmps264 Tryz.results264 rfl rfl rfl ?_;simp only[qab,Nat.reduceAdd]
 repeat'(first|refine zQ ?_|fail)
 refine qgN (d1:=.agg (qaG x)) rfl rfl (fun _ _=>rfl) hn rfl ?_
 repeat'(first|(with_reducible rfl)|refine zA ?_|((with_reducible apply qaz);rfl;rfl)|refine zE ?_|fail)
def qcK:Nat→(Nat→Int)→Int
 |0,_=>0
 |n+1,f=>if f 0=0 then qcK n (fun i=>f (i+1))else f 0
theorem qig:∀{n:Nat} {f:Nat→Int} {i:Nat},i<n→(∀j,j<i→f j=0)→f i≠0→qcK n f=f i
 |n+1,f,0,_,_,h=>by simp[qcK,h]
 |n+1,f,i+1,hi,hb,h=>by
  simp only[qcK,hb 0 (by omega),if_true]
  exact qig (f:=fun i=>f (i+1)) (by omega) (fun j hj=>hb (j+1) (by omega)) h
theorem qaC:∀{n:Nat} {f:Nat→Int},(∀j,j<n→f j=0)→qcK n f=0
 |0,_,_=>rfl
 |n+1,f,h=>by
  simp only[qcK,h 0 (by omega),if_true]
  exact qaC fun j hj=>h (j+1) (by omega)
def qcf{α:Type}(nm:α→ByteArray)(er:α→Int)(l:List α)(i:Nat):Int:=
 match l[i]? with
 |none=>0
 |some x=>if qaZ (nm x)=false then 4 else if((l.take i).any fun y=>decide (nm y=nm x))=true then 5 else er x
def qg4{α:Type}(nm:α→ByteArray)(er:α→Int)(l:List α):Int:=qcK l.length (qcf nm er l)
theorem qaV{α:Type}{nm:α→ByteArray}{er:α→Int}{l:List α}{i:Nat}{e:Int}(hi:i<l.length)(hC:∀j,j<i→qcf nm er l j=0)(h:qcf nm er l i=e)(he:e≠0):e=qg4 nm er l:=by
 subst h
 exact(qig hi hC he).symm
theorem c80(l:List Soil)(hl:l.length<1000000000000)(g g':FuncId)(nm:Soil→ByteArray)(er:Soil→Int)(hn:∀x,Contract Tryz.prog g [.agg (qaG x)] (.ret (.str (nm x))))(he:∀x,Contract Tryz.prog g' [.agg (qaG x)] (.ret (.int .i64 (er x)))):
  Contract Tryz.prog 220 [.sl (l.map qaG),.clo (.func g) [] [],.clo (.func g') [] []] (.ret (.int .i64 (qg4 nm er l))):=by
 refine zT mix Tryz.func220 Tryz.ntmps220 Tryz.results220 rfl rfl rfl ?_;simp only[qab,Nat.reduceAdd]
 repeat'(first|refine zQ ?_|fail)
 refine qad l.length (fun i=>⟨[(13,.int .i64 i),(12,.int .i64 l.length),(11,.sl (l.map qaG)),(0,.sl (l.map qaG)),(2,.clo (.func g') [] []),(4,.op 0 0 0)],[(0,⟨1,false,[[.clo (.func g) [] []]]⟩)],32,36⟩) (fun i=>∀j,j<i→qcf nm er l j=0) (qaa (k:=0) (ns:=[]) (ks:=[13,12,11,0,2,4]) [(0,0)] rfl (by simp) rfl) (by omega) ?_
 intro i hi hC
 repeat'(first|refine zQ ?_|(refine zI ?_;intro hlt)|(refine zC ?_ ?_<;>first|intro h|simp)|refine zE ?_|fail)
 refine qgN (d1:=.agg (qaG l[i])) rfl rfl (fun _ _=>rfl) (hn _) rfl ?_
 repeat'(first|refine zQ ?_|fail)
 refine qae (args':=[.str (nm l[i])]) rfl (qHP _) rfl ?_
 repeat'(first|refine zQ ?_|(refine zC ?_ ?_<;>first|intro h|simp)|refine zE ?_|fail)
 ·have h2:i<l.length:=by omega
  exact qaV h2 hC (by simp[qcf,h2,h]) (by decide)
 refine qae (args':=[.sl ((l.take i).map qaG),.clo (.func 264) [] [.ptr [.clo (.func g) [] []],.ptr [.str (nm l[i])]]]) rfl (qKf (l.take i) (by simp;omega) 264 _ (fun _ _=>rfl) rfl (fun y=>decide (nm y=nm l[i])) fun y _=>qLA y _ _ g (hn y)) rfl ?_
 repeat'(first|refine zQ ?_|(refine zC ?_ ?_<;>first|intro h|simp)|refine zE ?_|fail)
 ·rename_i h1 _
  have h2:i<l.length:=by omega
  exact qaV h2 hC (by simp only[qcf,List.getElem?_eq_getElem h2,h, *];simp) (by decide)
 refine qmS (d1:=.agg (qaG l[i])) rfl rfl (fun _ _=>rfl) (he _) rfl ?_
 repeat'(first|refine zQ ?_|(refine zC ?_ ?_<;>first|intro h|simp)|refine zE ?_|fail)
 ·have h2:i<l.length:=by omega
  exact qaV h2 hC (by simp only[qcf,List.getElem?_eq_getElem h2, *];simp) h
 ·have h2:i<l.length:=by omega
  refine⟨h2,fun j hj=>?_,qaa (k:=0) (ns:=[]) (ks:=[13,12,11,0,2,4]) [(0,0)] rfl (by simp) rfl⟩
  rcases Nat.lt_succ_iff_lt_or_eq.1 hj with h'|rfl
  ·exact hC j h'
  ·simp only[qcf,List.getElem?_eq_getElem h2, *];simp
 ·refine(qaC fun j hj=>hC j (by omega)).symm
def qjh(x:Soil):Int:=if(1≤x.a∧x.a≤1000)∧(1≤x.b∧x.b≤5000)∧(1≤x.r∧x.r≤1000)∧(1≤x.h∧x.h≤1000)∧x.h≤x.r then 0 else 2
theorem c82(x:Soil):Contract Tryz.prog 222 [.agg (qaG x)] (.ret (.int .i64 (qjh x))):=by
 refine zT mix Tryz.func222 Tryz.ntmps222 Tryz.results222 rfl rfl rfl ?_;simp only[qab,Nat.reduceAdd]
 repeat'(first|((with_reducible apply qae);rfl;(exact qD3 _ _ _);rfl)|refine zQ ?_|(refine zC ?_ ?_<;>first|intro h|simp)|(refine zG ?_ ?_<;>first|intro h|simp)|refine zE ?_|fail)
 all_goals first
  |(simp only[qjh];rw[if_pos (by omega)])
  |(simp only[qjh];rw[if_neg (by omega)])
theorem c85(x:Soil):Contract Tryz.prog 234 [.agg (qaG x)] (.ret (.int .i64 (qjh x))):=by
 refine zT mix Tryz.func234 Tryz.ntmps234 Tryz.results234 rfl rfl rfl ?_;simp only[qab,Nat.reduceAdd]
 repeat'(first|((with_reducible apply qae);rfl;(exact c38 _ _ _);rfl)|refine zQ ?_|(refine zC ?_ ?_<;>first|intro h|simp)|(refine zG ?_ ?_<;>first|intro h|simp)|refine zE ?_|fail)
 all_goals first
  |(simp only[qjh];rw[if_pos (by omega)])
  |(simp only[qjh];rw[if_neg (by omega)])
def qcG(l:List Soil):Int:=if l.length=0 then 10 else if 8<l.length then 8 else qg4 (·.name) qjh l
theorem c20(l:List Soil)(hl:l.length<1000000000000):Contract Tryz.prog 162 [.sl (l.map qaG)] (.ret (.int .i64 (qcG l))):=by
 refine zT mix Tryz.func162 Tryz.ntmps162 Tryz.results162 rfl rfl rfl ?_;simp only[qab,Nat.reduceAdd]
 repeat'(first|refine zQ ?_|(refine zC ?_ ?_<;>first|intro h|simp)|refine zE ?_|fail)
 ·simp only[qcG];rw[if_pos (by omega)]
 ·simp only[qcG];rw[if_neg (by omega),if_pos (by omega)]
 ·refine qaj (args':=[.sl (l.map qaG),.clo (.func 221) [] [],.clo (.func 222) [] []]) rfl (c80 l hl 221 222 (·.name) qjh c81 c82) rfl ?_
  repeat'(first|refine zA ?_|refine zE ?_|fail)
  simp only[qcG];rw[if_neg (by omega),if_neg (by omega)]
def qbj(l:List Soil)(s:ByteArray):Int:=qcs (fun x=>decide (x.name=s)) l
theorem c84(l:List Soil)(hl:l.length<1000000000000)(s:ByteArray):Contract Tryz.prog 179 [.sl (l.map qaG),.str s] (.ret (.int .i64 (qbj l s))):=by
 refine zT mix Tryz.func179 Tryz.ntmps179 Tryz.results179 rfl rfl rfl ?_;simp only[qab,Nat.reduceAdd]
 repeat'(first|refine zQ ?_|fail)
 refine qad l.length (fun i=>⟨[(5,.int .i64 i),(0,.sl (l.map qaG)),(1,.str s)],[],0,20⟩) (fun i=>∀j (hj:j<i) (hj':j<l.length),decide (l[j].name=s)=false) (qaa (k:=0) (ns:=[]) (ks:=[5,0,1]) [] rfl (by simp) rfl) (by omega) ?_
 intro i hi hC
 repeat'(first|refine zQ ?_|(refine zI ?_;intro hlt)|(refine zC ?_ ?_<;>first|intro h|simp)|((with_reducible apply qaz);rfl;rfl)|refine zE ?_|fail)
 ·have h2:i<l.length:=by omega
  exact(qa1 h2 (by simpa using h) fun j hj=>hC j hj (by omega)).symm
 ·have h2:i<l.length:=by omega
  refine⟨h2,fun j hj hj'=>?_,qaa (k:=0) (ns:=[]) (ks:=[5,0,1]) [] rfl (by simp) rfl⟩
  rcases Nat.lt_succ_iff_lt_or_eq.1 hj with h'|rfl
  ·exact hC j h' hj'
  ·simpa using h
 ·refine(qa8 fun x hx=>?_).symm
  obtain⟨j,hj,rfl⟩:=List.mem_iff_getElem.1 hx
  exact hC j (by omega) hj
theorem qhz(l:List Soil){i:Nat}(hi:i<l.length):(qbj l l[i].name=i)↔((l.take i).any fun y=>decide (y.name=l[i].name))=false:=by
 constructor
 ·intro h
  rw[List.any_eq_false]
  intro y hy
  obtain⟨j,hj,rfl⟩:=List.mem_iff_getElem.1 hy
  simp only[List.length_take]at hj
  simp only[List.getElem_take]
  unfold qbj qcs at h
  split at h
  ·rename_i k hk
   rw[List.findIdx?_eq_some_iff_getElem]at hk
   obtain⟨h1,h2,h3⟩:=hk
   have:k=i:=by omega
   subst this
   exact h3 j (by omega)
  ·omega
 ·intro h
  refine qa1 hi (by simp) fun j hj=>?_
  rw[List.any_eq_false]at h
  have:=h l[j] (List.mem_iff_getElem.2 ⟨j,by simp;omega,by simp⟩)
  simpa using this
theorem c21(l:List Soil)(hl:l.length<1000000000000):Contract Tryz.prog 174 [.sl (l.map qaG)] (.ret (.int .i64 (qcG l))):=by
 refine zT mix Tryz.func174 Tryz.ntmps174 Tryz.results174 rfl rfl rfl ?_;simp only[qab,Nat.reduceAdd]
 repeat'(first|refine zQ ?_|(refine zC ?_ ?_<;>first|intro h|simp)|refine zE ?_|fail)
 ·simp only[qcG];rw[if_pos (by omega)]
 ·simp only[qcG];rw[if_neg (by omega),if_pos (by omega)]
 ·refine qad l.length (fun i=>⟨[(3,.int .i64 i),(0,.sl (l.map qaG))],[],0,41⟩) (fun i=>∀j,j<i→qcf (·.name) qjh l j=0) (qaa (k:=0) (ns:=[]) (ks:=[3,0]) [] rfl (by simp) rfl) (by omega) ?_
  intro i hi hC
  repeat'(first|((with_reducible (show qap _ (.call _) _ _ _ _));first|((with_reducible apply qae);rfl;(exact c83 _);rfl)|((with_reducible apply qaj);rfl;(exact c84 l hl _);rfl)|((with_reducible apply qaj);rfl;(exact c85 l[i]);rfl))|refine zQ ?_|(refine zI ?_;intro hlt)|(refine zC ?_ ?_<;>first|intro h|simp)|refine zE ?_|fail)
  all_goals have hs:qcG l=qg4 (·.name) qjh l:=by simp only[qcG];rw[if_neg (by omega),if_neg (by omega)]
  all_goals try simp only[Int.toNat_natCast]at*
  ·have h2:i<l.length:=by omega
   rw[hs]
   exact qaV h2 hC (by simp only[qcf,List.getElem?_eq_getElem h2,h];simp) (by decide)
  ·have h2:i<l.length:=by omega
   have h3:((l.take i).any fun y=>decide (y.name=l[i].name))=true:=by
    rw[←Bool.not_eq_false,←qhz l h2];exact h
   rw[hs]
   exact qaV h2 hC (by simp only[qcf,List.getElem?_eq_getElem h2,h3, *];simp) (by decide)
  ·have h2:i<l.length:=by omega
   have h3:((l.take i).any fun y=>decide (y.name=l[i].name))=false:=by
    rw[←qhz l h2];assumption
   rw[hs]
   exact qaV h2 hC (by simp only[qcf,List.getElem?_eq_getElem h2,h3, *];simp) h
  ·have h2:i<l.length:=by omega
   have h3:((l.take i).any fun y=>decide (y.name=l[i].name))=false:=by
    rw[←qhz l h2];assumption
   refine⟨h2,fun j hj=>?_,qaa (k:=0) (ns:=[]) (ks:=[3,0]) [] rfl (by simp) rfl⟩
   rcases Nat.lt_succ_iff_lt_or_eq.1 hj with h'|rfl
   ·exact hC j h'
   ·simp only[qcf,List.getElem?_eq_getElem h2,h3, *];simp
  ·rw[hs]
   exact(qaC fun j hj=>hC j (by omega)).symm
structure Layer where
 top:Int
 soil:ByteArray
structure Boring where
 name:ByteArray
 x:Int
 y:Int
 layers:List Layer
structure Pt where
 x:Int
 y:Int
def qeZ(l:Layer):List D:=[.int .i64 l.top,.str l.soil]
def qbG(b:Boring):List D:=[.str b.name,.int .i64 b.x,.int .i64 b.y,.sl (b.layers.map qeZ)]
def encPt(p:Pt):List D:=[.int .i64 p.x,.int .i64 p.y]
theorem qLB(l:List Boring)(hl:l.length<1000000000000)(g:FuncId)(ys:List D)(hst:qmg ys)(hpu:qbV ys=true)(p:Boring→Bool)(hf:∀x∈l,Contract Tryz.prog g (.agg (qbG x)::ys) (.ret (.bool (p x)))):
  Contract Tryz.prog 265 [.sl (l.map qbG),.clo (.func g) [] ys] (.ret (.int .i64 (qcs p l))):=by
 refine zT mix Tryz.func265 Tryz.ntmps265 Tryz.results265 rfl rfl rfl ?_;simp only[qab,Nat.reduceAdd]
 repeat'(first|refine zQ ?_|fail)
 have e8:∀i:Nat,(⟨[(8,.int .i64 i),(7,.int .i64 l.length),(0,.sl (l.map qbG)),(1,.clo (.func g) [] (qhb [] ys))],[],0,19⟩:St)=⟨[(8,.int .i64 i),(7,.int .i64 l.length),(0,.sl (l.map qbG)),(1,.clo (.func g) [] ys)],[],0,19⟩:=fun i=>by rw[qbE hpu]
 refine qad l.length (fun i=>⟨[(8,.int .i64 i),(7,.int .i64 l.length),(0,.sl (l.map qbG)),(1,.clo (.func g) [] ys)],[],0,19⟩) (fun i=>∀j (hj:j<i) (hj':j<l.length),p l[j]=false) (qaa (k:=0) (ns:=[]) (ks:=[8,7,0,1]) [] rfl (by simp) (e8 _)) (by omega) ?_
 intro i hi hC
 repeat'(first|refine zQ ?_|(refine zI ?_;intro hlt)|(refine zC ?_ ?_<;>first|intro h|simp)|refine zE ?_|fail)
 ·refine qa3 rfl rfl hst (hf l[i] (List.getElem_mem _)) rfl ?_
  repeat'(first|refine zQ ?_|(refine zC ?_ ?_<;>first|intro h|simp)|refine zE ?_|fail)
  ·have h2:i<l.length:=by omega
   exact(qa1 h2 h fun j hj=>hC j hj (by omega)).symm
  ·have h2:i<l.length:=by omega
   refine⟨by omega,fun j hj hj'=>?_,qaa (k:=0) (ns:=[]) (ks:=[8,7,0,1]) [] rfl (by simp) (e8 _)⟩
   rcases Nat.lt_succ_iff_lt_or_eq.1 hj with h'|rfl
   ·exact hC j h' hj'
   ·exact h
 ·refine(qa8 fun x hx=>?_).symm
  obtain⟨j,hj,rfl⟩:=List.mem_iff_getElem.1 hx
  exact hC j (by omega) hj
theorem qLC(l:List Boring)(hl:l.length<1000000000000)(g:FuncId)(ys:List D)(hst:qmg ys)(hpu:qbV ys=true)(p:Boring→Bool)(hf:∀x∈l,Contract Tryz.prog g (.agg (qbG x)::ys) (.ret (.bool (p x)))):
  Contract Tryz.prog 224 [.sl (l.map qbG),.clo (.func g) [] ys] (.ret (.bool (l.any p))):=by
 refine zT mix Tryz.func224 Tryz.ntmps224 Tryz.results224 rfl rfl rfl ?_;simp only[qab,Nat.reduceAdd]
 repeat'(first|refine zQ ?_|fail)
 refine qaj (args':=[.sl (l.map qbG),.clo (.func g) [] ys]) ?_ (qLB l hl g ys hst hpu p hf) rfl ?_
 ·have e:=hst (lkH []) 45
  simp only[List.map_cons,List.map_nil,qac,lkE,qbX,pur,Option.bind_some,Option.map_some,Nat.reduceEqDiff,if_true,if_false,e]
 repeat'(first|refine zA ?_|refine zE ?_|fail)
 exact qcZ
theorem c87(x:Boring):Contract Tryz.prog 164 [.agg (qbG x)] (.ret (.str x.name)):=by
 refine zT mix Tryz.func164 Tryz.ntmps164 Tryz.results164 rfl rfl rfl ?_;simp only[qab,Nat.reduceAdd]
 repeat'(first|(with_reducible rfl)|refine zQ ?_|refine zE ?_|fail)
theorem qLD(x:Boring)(s nm:ByteArray)(g:FuncId)(hn:Contract Tryz.prog g [.agg (qbG x)] (.ret (.str nm))):Contract Tryz.prog 225 [.agg (qbG x),.ptr [.clo (.func g) [] []],.ptr [.str s]] (.ret (.bool (decide (nm=s)))):=by
 refine zT mix Tryz.func225 Tryz.ntmps225 Tryz.results225 rfl rfl rfl ?_;simp only[qab,Nat.reduceAdd]
 repeat'(first|refine zQ ?_|fail)
 refine qgN (d1:=.agg (qbG x)) rfl rfl (fun _ _=>rfl) hn rfl ?_
 repeat'(first|(with_reducible rfl)|refine zA ?_|((with_reducible apply qaz);rfl;rfl)|refine zE ?_|fail)
def ptOK(p:Pt):Bool:=decide ((-1000000≤p.x∧p.x≤1000000)∧(-1000000≤p.y∧p.y≤1000000))
def qhQ(n:Int):Bool:=decide (-20000≤n∧n≤20000)
theorem qHQ(p:Pt):Contract Tryz.prog 226 [.agg (encPt p)] (.ret (.bool (ptOK p))):=by
 refine zT mix Tryz.func226 Tryz.ntmps226 Tryz.results226 rfl rfl rfl ?_;simp only[qab,Nat.reduceAdd]
 repeat'(first|((with_reducible apply qae);rfl;(exact qD3 _ _ _);rfl)|refine zQ ?_|(refine zG ?_ ?_<;>first|intro h|simp)|refine zE ?_|fail)
 all_goals (simp only[ptOK];simp_all;try omega)
theorem c46(p:Pt):Contract Tryz.prog 235 [.agg (encPt p)] (.ret (.bool (ptOK p))):=by
 refine zT mix Tryz.func235 Tryz.ntmps235 Tryz.results235 rfl rfl rfl ?_;simp only[qab,Nat.reduceAdd]
 repeat'(first|((with_reducible apply qae);rfl;(exact c38 _ _ _);rfl)|refine zQ ?_|(refine zG ?_ ?_<;>first|intro h|simp)|refine zE ?_|fail)
 all_goals (simp only[ptOK];simp_all;try omega)
theorem qHR(n:Int):Contract Tryz.prog 227 [.int .i64 n] (.ret (.bool (qhQ n))):=by
 refine zT mix Tryz.func227 Tryz.ntmps227 Tryz.results227 rfl rfl rfl ?_;simp only[qab,Nat.reduceAdd]
 repeat'(first|((with_reducible apply qae);rfl;(exact qD3 _ _ _);rfl)|refine zQ ?_|refine zE ?_|fail)
 rfl
theorem c48(n:Int):Contract Tryz.prog 105 [.int .i64 n] (.ret (.bool (qhQ n))):=by
 refine zT mix Tryz.func105 Tryz.ntmps105 Tryz.results105 rfl rfl rfl ?_;simp only[qab,Nat.reduceAdd]
 repeat'(first|((with_reducible apply qae);rfl;(exact c38 _ _ _);rfl)|refine zQ ?_|refine zE ?_|fail)
 rfl
theorem qLE(x:Soil)(s:ByteArray):Contract Tryz.prog 266 [.agg (qaG x),.ptr [.str s]] (.ret (.bool (decide (x.name=s)))):=by
 refine zT mix Tryz.func266 Tryz.ntmps266 Tryz.results266 rfl rfl rfl ?_;simp only[qab,Nat.reduceAdd]
 repeat'(first|(with_reducible rfl)|refine zQ ?_|((with_reducible apply qaz);rfl;rfl)|refine zE ?_|fail)
theorem qHS(l:List Soil)(hl:l.length<1000000000000)(s:ByteArray):Contract Tryz.prog 228 [.sl (l.map qaG),.str s] (.ret (.int .i64 (qbj l s))):=by
 refine zT mix Tryz.func228 Tryz.ntmps228 Tryz.results228 rfl rfl rfl ?_;simp only[qab,Nat.reduceAdd]
 repeat'(first|refine zQ ?_|fail)
 refine qaj (args':=[.sl (l.map qaG),.clo (.func 266) [] [.ptr [.str s]]]) rfl (qKe l hl 266 _ (fun _ _=>rfl) rfl (fun x=>decide (x.name=s)) fun x _=>qLE x s) rfl ?_
 repeat'(first|refine zA ?_|refine zE ?_|fail)
 rfl
end Go.Pv.Soil

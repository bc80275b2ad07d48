import Derived.Test.YtfklpkgdobdbpaaGreatCAD
import Derived.Test.YtfklpkgdobdbpaaGreatCAE
/- Part of the proofs over YtfklpkgdobdbpaaGreat: S1, S2, S3, S4, S5, S6, S8, S9. -/
set_option linter.unusedVariables false
set_option linter.unusedSimpArgs false
set_option linter.unnecessarySimpa false
open Go Go.Proofs Go.Pv
set_option maxHeartbeats 8000000
set_option maxRecDepth 100000
set_option linter.unusedSimpArgs false
set_option linter.unusedVariables false
namespace Go.Pv.Soil
theorem mix:Tryz.prog.follows .mixedOrders=true:=by decide +kernel
theorem c38(n lo hi:Int):Contract Tryz.prog 84 [.int .i64 n,.int .i64 lo,.int .i64 hi] (.ret (.bool (decide (lo≤n∧n≤hi)))):=by
 refine zT mix Tryz.func84 Tryz.ntmps84 Tryz.results84 rfl rfl rfl ?_;simp only[qac,Nat.reduceAdd]
 repeat'(first|refine zQ ?_|(refine zG ?_ ?_<;>first|intro h|simp)|refine zE ?_|fail)
 all_goals (simp at *;try omega)
theorem qBU(n lo hi:Int):Contract Tryz.prog 212 [.int .i64 n,.int .i64 lo,.int .i64 hi] (.ret (.bool (decide (lo≤n∧n≤hi)))):=by
 refine zT mix Tryz.func212 Tryz.ntmps212 Tryz.results212 rfl rfl rfl ?_;simp only[qac,Nat.reduceAdd]
 repeat'(first|refine zQ ?_|(refine zG ?_ ?_<;>first|intro h|simp)|refine zE ?_|fail)
 all_goals (simp at *;try omega)
def qfw(c:Int):Bool:=decide ((97≤c∧c≤122)∨(65≤c∧c≤90))
def qjp(i:Nat)(c:Int):Bool:=qfw c||(decide (i≠0)&&decide (c=45∨(48≤c∧c≤57)))
def qaS(s:ByteArray):Bool:=decide (1≤s.size∧s.size≤12)&&(List.range s.size).all fun i=>qjp i (qdf s i)
theorem qcQ{s:ByteArray}(h:s.size<1∨12<s.size):false=qaS s:=by
 have:decide (1≤s.size∧s.size≤12)=false:=by simp;omega
 simp only[qaS,this,Bool.false_and]
theorem qd9{s:ByteArray}{i:Nat}(hi:i<s.size)(h:qjp i (qdf s i)=false):false=qaS s:=by
 have:((List.range s.size).all fun i=>qjp i (qdf s i))=false:=by
  rw[List.all_eq_false]
  exact⟨i,by simpa using hi,by simp[h]⟩
 simp only[qaS,this,Bool.and_false]
theorem qgq{s:ByteArray}(h1:¬s.size<1)(h2:¬12<s.size)(h:∀j,j<s.size→qjp j (qdf s j)=true):true=qaS s:=by
 have e:((List.range s.size).all fun i=>qjp i (qdf s i))=true:=by
  rw[List.all_eq_true]
  exact fun j hj=>h j (by simpa using hj)
 have e2:decide (1≤s.size∧s.size≤12)=true:=by simp;omega
 simp only[qaS,e,e2,Bool.and_true]
theorem qeX{s:ByteArray}{i:Nat}(hC:∀j,j<i→qjp j (qdf s j)=true)(h:qjp i (qdf s i)=true):∀j,j<i+1→qjp j (qdf s j)=true:=fun j hj=>by
 rcases Nat.lt_succ_iff_lt_or_eq.1 hj with h'|rfl
 ·exact hC j h'
 ·exact h
theorem qq6{i:Nat}{c:Int}(h:((97≤c∧c≤122)∨(65≤c∧c≤90))∨(i≠0∧(c=45∨(48≤c∧c≤57)))):qjp i c=true:=by
 simpa only[qjp,qfw,Bool.or_eq_true,Bool.and_eq_true,decide_eq_true_eq]using h
theorem qpV{i:Nat}{c:Int}(h:¬(((97≤c∧c≤122)∨(65≤c∧c≤90))∨(i≠0∧(c=45∨(48≤c∧c≤57))))):qjp i c=false:=by
 rw[←Bool.not_eq_true]
 simpa only[qjp,qfw,Bool.or_eq_true,Bool.and_eq_true,decide_eq_true_eq]using h
theorem qFD(s:ByteArray):Contract Tryz.prog 223 [.str s] (.ret (.bool (qaS s))):=by
 refine zT mix Tryz.func223 Tryz.ntmps223 Tryz.results223 rfl rfl rfl ?_;simp only[qac,Nat.reduceAdd]
 repeat'(first|refine zQ ?_|(refine zC ?_ ?_<;>first|intro h|simp)|(refine zG ?_ ?_<;>first|intro h|simp)|refine zE ?_|fail)
 ·exact qcQ (by omega)
 rotate_left
 ·exact qcQ (by omega)
 ·refine qaf s.size (fun i=>⟨[(16,.int .i64 i),(15,.int .i64 s.size),(0,.str s)],[],0,55⟩) (fun i=>∀j,j<i→qjp j (qdf s j)=true) (qaa (k:=0) (ns:=[]) (ks:=[16,15,0]) [] rfl (by simp) rfl) (by omega) ?_
  intro i hi hC
  repeat'(first|refine zQ ?_|(refine zC ?_ ?_<;>first|intro h|simp)|(refine zG ?_ ?_<;>first|intro h|simp)|refine zE ?_|fail)
  all_goals try simp only[Int.toNat_natCast]at*
  all_goals first
   |exact qd9 (i:=i) (by omega) (qpV (by omega))
   |exact⟨by omega,qeX hC (qq6 (by omega)),qaa (k:=0) (ns:=[]) (ks:=[16,15,0]) [] rfl (by simp) rfl⟩
   |exact qgq (by omega) (by omega) fun j hj=>hC j (by omega)
theorem c83(s:ByteArray):Contract Tryz.prog 83 [.str s] (.ret (.bool (qaS s))):=by
 refine zT mix Tryz.func83 Tryz.ntmps83 Tryz.results83 rfl rfl rfl ?_;simp only[qac,Nat.reduceAdd]
 repeat'(first|refine zQ ?_|(refine zC ?_ ?_<;>first|intro h|simp)|(refine zG ?_ ?_<;>first|intro h|simp)|refine zE ?_|fail)
 ·exact qcQ (by omega)
 rotate_left
 ·exact qcQ (by omega)
 ·refine qaf s.size (fun i=>⟨[(3,.int .i64 i),(0,.str s)],[],0,55⟩) (fun i=>∀j,j<i→qjp j (qdf s j)=true) (qaa (k:=0) (ns:=[]) (ks:=[3,0]) [] rfl (by simp) rfl) (by omega) ?_
  intro i hi hC
  repeat'(first|refine zQ ?_|(refine zC ?_ ?_<;>first|intro h|simp)|(refine zG ?_ ?_<;>first|intro h|simp)|refine zE ?_|fail)
  all_goals try simp only[Int.toNat_natCast]at*
  all_goals first
   |exact qd9 (i:=i) (by omega) (qpV (by omega))
   |exact⟨by omega,qeX hC (qq6 (by omega)),qaa (k:=0) (ns:=[]) (ks:=[3,0]) [] rfl (by simp) rfl⟩
   |exact qgq (by omega) (by omega) fun j hj=>hC j (by omega)
structure Soil where
 name:ByteArray
 a:Int
 b:Int
 r:Int
 h:Int
def qaC(x:Soil):List D:=[.str x.name,.int .i64 x.a,.int .i64 x.b,.int .i64 x.r,.int .i64 x.h]
def qci{α:Type}(p:α→Bool)(l:List α):Int:=match l.findIdx? p with
 |some i=>i
 |none=> -1
theorem qa7{α:Type}{p:α→Bool}{l:List α}(h:∀x∈l,p x=false):qci p l= -1:=by
 have:l.findIdx? p=none:=by simpa using h
 rw[qci,this]
theorem qaY{α:Type}{p:α→Bool}{l:List α}{i:Nat}(hi:i<l.length)(h:p l[i]=true)(hb:∀j (hj:j<i),p (l[j]'(by omega))=false):qci p l=i:=by
 have:l.findIdx? p=some i:=by
  rw[List.findIdx?_eq_some_iff_getElem]
  exact⟨hi,h,fun j hj=>by simpa using hb j hj⟩
 rw[qci,this]
theorem qH1(l:List Soil)(hl:l.length<1000000000000)(g:FuncId)(ys:List D)(hst:qlk ys)(hpu:qbF ys=true)(p:Soil→Bool)(hf:∀x∈l,Contract Tryz.prog g (.agg (qaC x)::ys) (.ret (.bool (p x)))):
  Contract Tryz.prog 233 [.sl (l.map qaC),.clo (.func g) [] ys] (.ret (.int .i64 (qci p l))):=by
 refine zT mix Tryz.func233 Tryz.ntmps233 Tryz.results233 rfl rfl rfl ?_;simp only[qac,Nat.reduceAdd]
 repeat'(first|refine zQ ?_|fail)
 have e8:∀i:Nat,(⟨[(8,.int .i64 i),(7,.int .i64 l.length),(0,.sl (l.map qaC)),(1,.clo (.func g) [] (qgI [] ys))],[],0,19⟩:St)=⟨[(8,.int .i64 i),(7,.int .i64 l.length),(0,.sl (l.map qaC)),(1,.clo (.func g) [] ys)],[],0,19⟩:=fun i=>by rw[qbr hpu]
 refine qaf l.length (fun i=>⟨[(8,.int .i64 i),(7,.int .i64 l.length),(0,.sl (l.map qaC)),(1,.clo (.func g) [] ys)],[],0,19⟩) (fun i=>∀j (hj:j<i) (hj':j<l.length),p l[j]=false) (qaa (k:=0) (ns:=[]) (ks:=[8,7,0,1]) [] rfl (by simp) (e8 _)) (by omega) ?_
 intro i hi hC
 repeat'(first|refine zQ ?_|(refine zI ?_;intro hlt)|(refine zC ?_ ?_<;>first|intro h|simp)|refine zE ?_|fail)
 ·refine qaW rfl rfl hst (hf l[i] (List.getElem_mem _)) rfl ?_
  repeat'(first|refine zQ ?_|(refine zC ?_ ?_<;>first|intro h|simp)|refine zE ?_|fail)
  ·have h2:i<l.length:=by omega
   exact(qaY h2 h fun j hj=>hC j hj (by omega)).symm
  ·have h2:i<l.length:=by omega
   refine⟨by omega,fun j hj hj'=>?_,qaa (k:=0) (ns:=[]) (ks:=[8,7,0,1]) [] rfl (by simp) (e8 _)⟩
   rcases Nat.lt_succ_iff_lt_or_eq.1 hj with h'|rfl
   ·exact hC j h' hj'
   ·exact h
 ·refine(qa7 fun x hx=>?_).symm
  obtain⟨j,hj,rfl⟩:=List.mem_iff_getElem.1 hx
  exact hC j (by omega) hj
theorem qcI{α:Type}{p:α→Bool}{l:List α}:decide (0≤qci p l)=l.any p:=by
 unfold qci
 cases h:l.findIdx? p with
 |none=>
  have:l.any p=false:=by
   rw[List.findIdx?_eq_none_iff]at h
   rw[List.any_eq_false]
   intro x hx
   simp[h x hx]
  rw[this];rfl
 |some i=>
  have:l.any p=true:=by
   rw[List.findIdx?_eq_some_iff_getElem]at h
   obtain⟨hi,hp,_⟩:=h
   rw[List.any_eq_true]
   exact⟨_,List.getElem_mem hi,hp⟩
  rw[this]
  simp
theorem qH2(l:List Soil)(hl:l.length<1000000000000)(g:FuncId)(ys:List D)(hst:qlk ys)(hpu:qbF ys=true)(p:Soil→Bool)(hf:∀x∈l,Contract Tryz.prog g (.agg (qaC x)::ys) (.ret (.bool (p x)))):
  Contract Tryz.prog 172 [.sl (l.map qaC),.clo (.func g) [] ys] (.ret (.bool (l.any p))):=by
 refine zT mix Tryz.func172 Tryz.ntmps172 Tryz.results172 rfl rfl rfl ?_;simp only[qac,Nat.reduceAdd]
 repeat'(first|refine zQ ?_|fail)
 refine qaj (args':=[.sl (l.map qaC),.clo (.func g) [] ys]) ?_ (qH1 l hl g ys hst hpu p hf) rfl ?_
 ·have e:=hst (lkH []) 45
  simp only[List.map_cons,List.map_nil,qab,lkE,qbQ,pur,Option.bind_some,Option.map_some,Nat.reduceEqDiff,if_true,if_false,e]
 repeat'(first|refine zA ?_|refine zE ?_|fail)
 exact qcI
theorem c81(x:Soil):Contract Tryz.prog 221 [.agg (qaC x)] (.ret (.str x.name)):=by
 refine zT mix Tryz.func221 Tryz.ntmps221 Tryz.results221 rfl rfl rfl ?_;simp only[qac,Nat.reduceAdd]
 repeat'(first|(with_reducible rfl)|refine zQ ?_|refine zE ?_|fail)
theorem qJh(x:Soil)(s nm:ByteArray)(g:FuncId)(hn:Contract Tryz.prog g [.agg (qaC x)] (.ret (.str nm))):Contract Tryz.prog 264 [.agg (qaC x),.ptr [.clo (.func g) [] []],.ptr [.str s]] (.ret (.bool (decide (nm=s)))):=by
 refine zT mix Tryz.func264 Tryz.ntmps264 Tryz.results264 rfl rfl rfl ?_;simp only[qac,Nat.reduceAdd]
 repeat'(first|refine zQ ?_|fail)
 refine qgo (d1:=.agg (qaC x)) rfl rfl (fun _ _=>rfl) hn rfl ?_
 repeat'(first|(with_reducible rfl)|refine zA ?_|((with_reducible apply qaG);rfl;rfl)|refine zE ?_|fail)
def qct:Nat→(Nat→Int)→Int
 |0,_=>0
 |n+1,f=>if f 0=0 then qct n (fun i=>f (i+1))else f 0
theorem qhL:∀{n:Nat} {f:Nat→Int} {i:Nat},i<n→(∀j,j<i→f j=0)→f i≠0→qct n f=f i
 |n+1,f,0,_,_,h=>by simp[qct,h]
 |n+1,f,i+1,hi,hb,h=>by
  simp only[qct,hb 0 (by omega),if_true]
  exact qhL (f:=fun i=>f (i+1)) (by omega) (fun j hj=>hb (j+1) (by omega)) h
theorem qaB:∀{n:Nat} {f:Nat→Int},(∀j,j<n→f j=0)→qct n f=0
 |0,_,_=>rfl
 |n+1,f,h=>by
  simp only[qct,h 0 (by omega),if_true]
  exact qaB fun j hj=>h (j+1) (by omega)
def qce{α:Type}(nm:α→ByteArray)(er:α→Int)(l:List α)(i:Nat):Int:=
 match l[i]? with
 |none=>0
 |some x=>if qaS (nm x)=false then 4 else if((l.take i).any fun y=>decide (nm y=nm x))=true then 5 else er x
def qha{α:Type}(nm:α→ByteArray)(er:α→Int)(l:List α):Int:=qct l.length (qce nm er l)
theorem qaP{α:Type}{nm:α→ByteArray}{er:α→Int}{l:List α}{i:Nat}{e:Int}(hi:i<l.length)(hC:∀j,j<i→qce nm er l j=0)(h:qce nm er l i=e)(he:e≠0):e=qha nm er l:=by
 subst h
 exact(qhL hi hC he).symm
theorem c80(l:List Soil)(hl:l.length<1000000000000)(g g':FuncId)(nm:Soil→ByteArray)(er:Soil→Int)(hn:∀x,Contract Tryz.prog g [.agg (qaC x)] (.ret (.str (nm x))))(he:∀x,Contract Tryz.prog g' [.agg (qaC x)] (.ret (.int .i64 (er x)))):
  Contract Tryz.prog 220 [.sl (l.map qaC),.clo (.func g) [] [],.clo (.func g') [] []] (.ret (.int .i64 (qha nm er l))):=by
 refine zT mix Tryz.func220 Tryz.ntmps220 Tryz.results220 rfl rfl rfl ?_;simp only[qac,Nat.reduceAdd]
 repeat'(first|refine zQ ?_|fail)
 refine qaf l.length (fun i=>⟨[(13,.int .i64 i),(12,.int .i64 l.length),(11,.sl (l.map qaC)),(0,.sl (l.map qaC)),(2,.clo (.func g') [] []),(4,.op 0 0 0)],[(0,⟨1,false,[[.clo (.func g) [] []]]⟩)],32,36⟩) (fun i=>∀j,j<i→qce nm er l j=0) (qaa (k:=0) (ns:=[]) (ks:=[13,12,11,0,2,4]) [(0,0)] rfl (by simp) rfl) (by omega) ?_
 intro i hi hC
 repeat'(first|refine zQ ?_|(refine zI ?_;intro hlt)|(refine zC ?_ ?_<;>first|intro h|simp)|refine zE ?_|fail)
 refine qgo (d1:=.agg (qaC l[i])) rfl rfl (fun _ _=>rfl) (hn _) rfl ?_
 repeat'(first|refine zQ ?_|fail)
 refine qad (args':=[.str (nm l[i])]) rfl (qFD _) rfl ?_
 repeat'(first|refine zQ ?_|(refine zC ?_ ?_<;>first|intro h|simp)|refine zE ?_|fail)
 ·have h2:i<l.length:=by omega
  exact qaP h2 hC (by simp[qce,h2,h]) (by decide)
 refine qad (args':=[.sl ((l.take i).map qaC),.clo (.func 264) [] [.ptr [.clo (.func g) [] []],.ptr [.str (nm l[i])]]]) rfl (qH2 (l.take i) (by simp;omega) 264 _ (fun _ _=>rfl) rfl (fun y=>decide (nm y=nm l[i])) fun y _=>qJh y _ _ g (hn y)) rfl ?_
 repeat'(first|refine zQ ?_|(refine zC ?_ ?_<;>first|intro h|simp)|refine zE ?_|fail)
 ·rename_i h1 _
  have h2:i<l.length:=by omega
  exact qaP h2 hC (by simp only[qce,List.getElem?_eq_getElem h2,h, *];simp) (by decide)
 refine qlP (d1:=.agg (qaC l[i])) rfl rfl (fun _ _=>rfl) (he _) rfl ?_
 repeat'(first|refine zQ ?_|(refine zC ?_ ?_<;>first|intro h|simp)|refine zE ?_|fail)
 ·have h2:i<l.length:=by omega
  exact qaP h2 hC (by simp only[qce,List.getElem?_eq_getElem h2, *];simp) h
 ·have h2:i<l.length:=by omega
  refine⟨h2,fun j hj=>?_,qaa (k:=0) (ns:=[]) (ks:=[13,12,11,0,2,4]) [(0,0)] rfl (by simp) rfl⟩
  rcases Nat.lt_succ_iff_lt_or_eq.1 hj with h'|rfl
  ·exact hC j h'
  ·simp only[qce,List.getElem?_eq_getElem h2, *];simp
 ·refine(qaB fun j hj=>hC j (by omega)).symm
def qiI(x:Soil):Int:=if(1≤x.a∧x.a≤1000)∧(1≤x.b∧x.b≤5000)∧(1≤x.r∧x.r≤1000)∧(1≤x.h∧x.h≤1000)∧x.h≤x.r then 0 else 2
theorem c82(x:Soil):Contract Tryz.prog 222 [.agg (qaC x)] (.ret (.int .i64 (qiI x))):=by
 refine zT mix Tryz.func222 Tryz.ntmps222 Tryz.results222 rfl rfl rfl ?_;simp only[qac,Nat.reduceAdd]
 repeat'(first|((with_reducible apply qad);rfl;(exact qBU _ _ _);rfl)|refine zQ ?_|(refine zC ?_ ?_<;>first|intro h|simp)|(refine zG ?_ ?_<;>first|intro h|simp)|refine zE ?_|fail)
 all_goals first
  |(simp only[qiI];rw[if_pos (by omega)])
  |(simp only[qiI];rw[if_neg (by omega)])
theorem c85(x:Soil):Contract Tryz.prog 234 [.agg (qaC x)] (.ret (.int .i64 (qiI x))):=by
 refine zT mix Tryz.func234 Tryz.ntmps234 Tryz.results234 rfl rfl rfl ?_;simp only[qac,Nat.reduceAdd]
 repeat'(first|((with_reducible apply qad);rfl;(exact c38 _ _ _);rfl)|refine zQ ?_|(refine zC ?_ ?_<;>first|intro h|simp)|(refine zG ?_ ?_<;>first|intro h|simp)|refine zE ?_|fail)
 all_goals first
  |(simp only[qiI];rw[if_pos (by omega)])
  |(simp only[qiI];rw[if_neg (by omega)])
def qdS(l:List Soil):Int:=if l.length=0 then 10 else if 8<l.length then 8 else qha (·.name) qiI l
theorem c20(l:List Soil)(hl:l.length<1000000000000):Contract Tryz.prog 162 [.sl (l.map qaC)] (.ret (.int .i64 (qdS l))):=by
 refine zT mix Tryz.func162 Tryz.ntmps162 Tryz.results162 rfl rfl rfl ?_;simp only[qac,Nat.reduceAdd]
 repeat'(first|refine zQ ?_|(refine zC ?_ ?_<;>first|intro h|simp)|refine zE ?_|fail)
 ·simp only[qdS];rw[if_pos (by omega)]
 ·simp only[qdS];rw[if_neg (by omega),if_pos (by omega)]
 ·refine qaj (args':=[.sl (l.map qaC),.clo (.func 221) [] [],.clo (.func 222) [] []]) rfl (c80 l hl 221 222 (·.name) qiI c81 c82) rfl ?_
  repeat'(first|refine zA ?_|refine zE ?_|fail)
  simp only[qdS];rw[if_neg (by omega),if_neg (by omega)]
def qa9(l:List Soil)(s:ByteArray):Int:=qci (fun x=>decide (x.name=s)) l
theorem c84(l:List Soil)(hl:l.length<1000000000000)(s:ByteArray):Contract Tryz.prog 179 [.sl (l.map qaC),.str s] (.ret (.int .i64 (qa9 l s))):=by
 refine zT mix Tryz.func179 Tryz.ntmps179 Tryz.results179 rfl rfl rfl ?_;simp only[qac,Nat.reduceAdd]
 repeat'(first|refine zQ ?_|fail)
 refine qaf l.length (fun i=>⟨[(5,.int .i64 i),(0,.sl (l.map qaC)),(1,.str s)],[],0,20⟩) (fun i=>∀j (hj:j<i) (hj':j<l.length),decide (l[j].name=s)=false) (qaa (k:=0) (ns:=[]) (ks:=[5,0,1]) [] rfl (by simp) rfl) (by omega) ?_
 intro i hi hC
 repeat'(first|refine zQ ?_|(refine zI ?_;intro hlt)|(refine zC ?_ ?_<;>first|intro h|simp)|((with_reducible apply qaG);rfl;rfl)|refine zE ?_|fail)
 ·have h2:i<l.length:=by omega
  exact(qaY h2 (by simpa using h) fun j hj=>hC j hj (by omega)).symm
 ·have h2:i<l.length:=by omega
  refine⟨h2,fun j hj hj'=>?_,qaa (k:=0) (ns:=[]) (ks:=[5,0,1]) [] rfl (by simp) rfl⟩
  rcases Nat.lt_succ_iff_lt_or_eq.1 hj with h'|rfl
  ·exact hC j h' hj'
  ·simpa using h
 ·refine(qa7 fun x hx=>?_).symm
  obtain⟨j,hj,rfl⟩:=List.mem_iff_getElem.1 hx
  exact hC j (by omega) hj
theorem qhb(l:List Soil){i:Nat}(hi:i<l.length):(qa9 l l[i].name=i)↔((l.take i).any fun y=>decide (y.name=l[i].name))=false:=by
 constructor
 ·intro h
  rw[List.any_eq_false]
  intro y hy
  obtain⟨j,hj,rfl⟩:=List.mem_iff_getElem.1 hy
  simp only[List.length_take]at hj
  simp only[List.getElem_take]
  unfold qa9 qci at h
  split at h
  ·rename_i k hk
   rw[List.findIdx?_eq_some_iff_getElem]at hk
   obtain⟨h1,h2,h3⟩:=hk
   have:k=i:=by omega
   subst this
   exact h3 j (by omega)
  ·omega
 ·intro h
  refine qaY hi (by simp) fun j hj=>?_
  rw[List.any_eq_false]at h
  have:=h l[j] (List.mem_iff_getElem.2 ⟨j,by simp;omega,by simp⟩)
  simpa using this
theorem c21(l:List Soil)(hl:l.length<1000000000000):Contract Tryz.prog 174 [.sl (l.map qaC)] (.ret (.int .i64 (qdS l))):=by
 refine zT mix Tryz.func174 Tryz.ntmps174 Tryz.results174 rfl rfl rfl ?_;simp only[qac,Nat.reduceAdd]
 repeat'(first|refine zQ ?_|(refine zC ?_ ?_<;>first|intro h|simp)|refine zE ?_|fail)
 ·simp only[qdS];rw[if_pos (by omega)]
 ·simp only[qdS];rw[if_neg (by omega),if_pos (by omega)]
 ·refine qaf l.length (fun i=>⟨[(3,.int .i64 i),(0,.sl (l.map qaC))],[],0,41⟩) (fun i=>∀j,j<i→qce (·.name) qiI l j=0) (qaa (k:=0) (ns:=[]) (ks:=[3,0]) [] rfl (by simp) rfl) (by omega) ?_
  intro i hi hC
  repeat'(first|((with_reducible (show qan _ (.call _) _ _ _ _));first|((with_reducible apply qad);rfl;(exact c83 _);rfl)|((with_reducible apply qaj);rfl;(exact c84 l hl _);rfl)|((with_reducible apply qaj);rfl;(exact c85 l[i]);rfl))|refine zQ ?_|(refine zI ?_;intro hlt)|(refine zC ?_ ?_<;>first|intro h|simp)|refine zE ?_|fail)
  all_goals have hs:qdS l=qha (·.name) qiI l:=by simp only[qdS];rw[if_neg (by omega),if_neg (by omega)]
  all_goals try simp only[Int.toNat_natCast]at*
  ·have h2:i<l.length:=by omega
   rw[hs]
   exact qaP h2 hC (by simp only[qce,List.getElem?_eq_getElem h2,h];simp) (by decide)
  ·have h2:i<l.length:=by omega
   have h3:((l.take i).any fun y=>decide (y.name=l[i].name))=true:=by
    rw[←Bool.not_eq_false,←qhb l h2];exact h
   rw[hs]
   exact qaP h2 hC (by simp only[qce,List.getElem?_eq_getElem h2,h3, *];simp) (by decide)
  ·have h2:i<l.length:=by omega
   have h3:((l.take i).any fun y=>decide (y.name=l[i].name))=false:=by
    rw[←qhb l h2];assumption
   rw[hs]
   exact qaP h2 hC (by simp only[qce,List.getElem?_eq_getElem h2,h3, *];simp) h
  ·have h2:i<l.length:=by omega
   have h3:((l.take i).any fun y=>decide (y.name=l[i].name))=false:=by
    rw[←qhb l h2];assumption
   refine⟨h2,fun j hj=>?_,qaa (k:=0) (ns:=[]) (ks:=[3,0]) [] rfl (by simp) rfl⟩
   rcases Nat.lt_succ_iff_lt_or_eq.1 hj with h'|rfl
   ·exact hC j h'
   ·simp only[qce,List.getElem?_eq_getElem h2,h3, *];simp
  ·rw[hs]
   exact(qaB fun j hj=>hC j (by omega)).symm
structure Layer where
 top:Int
 soil:ByteArray
structure Boring where
 name:ByteArray
 x:Int
 y:Int
 layers:List Layer
structure Pt where
 x:Int
 y:Int
def qeB(l:Layer):List D:=[.int .i64 l.top,.str l.soil]
def qbs(b:Boring):List D:=[.str b.name,.int .i64 b.x,.int .i64 b.y,.sl (b.layers.map qeB)]
def encPt(p:Pt):List D:=[.int .i64 p.x,.int .i64 p.y]
theorem qJi(l:List Boring)(hl:l.length<1000000000000)(g:FuncId)(ys:List D)(hst:qlk ys)(hpu:qbF ys=true)(p:Boring→Bool)(hf:∀x∈l,Contract Tryz.prog g (.agg (qbs x)::ys) (.ret (.bool (p x)))):
  Contract Tryz.prog 265 [.sl (l.map qbs),.clo (.func g) [] ys] (.ret (.int .i64 (qci p l))):=by
 refine zT mix Tryz.func265 Tryz.ntmps265 Tryz.results265 rfl rfl rfl ?_;simp only[qac,Nat.reduceAdd]
 repeat'(first|refine zQ ?_|fail)
 have e8:∀i:Nat,(⟨[(8,.int .i64 i),(7,.int .i64 l.length),(0,.sl (l.map qbs)),(1,.clo (.func g) [] (qgI [] ys))],[],0,19⟩:St)=⟨[(8,.int .i64 i),(7,.int .i64 l.length),(0,.sl (l.map qbs)),(1,.clo (.func g) [] ys)],[],0,19⟩:=fun i=>by rw[qbr hpu]
 refine qaf l.length (fun i=>⟨[(8,.int .i64 i),(7,.int .i64 l.length),(0,.sl (l.map qbs)),(1,.clo (.func g) [] ys)],[],0,19⟩) (fun i=>∀j (hj:j<i) (hj':j<l.length),p l[j]=false) (qaa (k:=0) (ns:=[]) (ks:=[8,7,0,1]) [] rfl (by simp) (e8 _)) (by omega) ?_
 intro i hi hC
 repeat'(first|refine zQ ?_|(refine zI ?_;intro hlt)|(refine zC ?_ ?_<;>first|intro h|simp)|refine zE ?_|fail)
 ·refine qaW rfl rfl hst (hf l[i] (List.getElem_mem _)) rfl ?_
  repeat'(first|refine zQ ?_|(refine zC ?_ ?_<;>first|intro h|simp)|refine zE ?_|fail)
  ·have h2:i<l.length:=by omega
   exact(qaY h2 h fun j hj=>hC j hj (by omega)).symm
  ·have h2:i<l.length:=by omega
   refine⟨by omega,fun j hj hj'=>?_,qaa (k:=0) (ns:=[]) (ks:=[8,7,0,1]) [] rfl (by simp) (e8 _)⟩
   rcases Nat.lt_succ_iff_lt_or_eq.1 hj with h'|rfl
   ·exact hC j h' hj'
   ·exact h
 ·refine(qa7 fun x hx=>?_).symm
  obtain⟨j,hj,rfl⟩:=List.mem_iff_getElem.1 hx
  exact hC j (by omega) hj
theorem qJj(l:List Boring)(hl:l.length<1000000000000)(g:FuncId)(ys:List D)(hst:qlk ys)(hpu:qbF ys=true)(p:Boring→Bool)(hf:∀x∈l,Contract Tryz.prog g (.agg (qbs x)::ys) (.ret (.bool (p x)))):
  Contract Tryz.prog 224 [.sl (l.map qbs),.clo (.func g) [] ys] (.ret (.bool (l.any p))):=by
 refine zT mix Tryz.func224 Tryz.ntmps224 Tryz.results224 rfl rfl rfl ?_;simp only[qac,Nat.reduceAdd]
 repeat'(first|refine zQ ?_|fail)
 refine qaj (args':=[.sl (l.map qbs),.clo (.func g) [] ys]) ?_ (qJi l hl g ys hst hpu p hf) rfl ?_
 ·have e:=hst (lkH []) 45
  simp only[List.map_cons,List.map_nil,qab,lkE,qbQ,pur,Option.bind_some,Option.map_some,Nat.reduceEqDiff,if_true,if_false,e]
 repeat'(first|refine zA ?_|refine zE ?_|fail)
 exact qcI
theorem c87(x:Boring):Contract Tryz.prog 164 [.agg (qbs x)] (.ret (.str x.name)):=by
 refine zT mix Tryz.func164 Tryz.ntmps164 Tryz.results164 rfl rfl rfl ?_;simp only[qac,Nat.reduceAdd]
 repeat'(first|(with_reducible rfl)|refine zQ ?_|refine zE ?_|fail)
theorem qJk(x:Boring)(s nm:ByteArray)(g:FuncId)(hn:Contract Tryz.prog g [.agg (qbs x)] (.ret (.str nm))):Contract Tryz.prog 225 [.agg (qbs x),.ptr [.clo (.func g) [] []],.ptr [.str s]] (.ret (.bool (decide (nm=s)))):=by
 refine zT mix Tryz.func225 Tryz.ntmps225 Tryz.results225 rfl rfl rfl ?_;simp only[qac,Nat.reduceAdd]
 repeat'(first|refine zQ ?_|fail)
 refine qgo (d1:=.agg (qbs x)) rfl rfl (fun _ _=>rfl) hn rfl ?_
 repeat'(first|(with_reducible rfl)|refine zA ?_|((with_reducible apply qaG);rfl;rfl)|refine zE ?_|fail)
def ptOK(p:Pt):Bool:=decide ((-1000000≤p.x∧p.x≤1000000)∧(-1000000≤p.y∧p.y≤1000000))
def qhp(n:Int):Bool:=decide (-20000≤n∧n≤20000)
theorem qFE(p:Pt):Contract Tryz.prog 226 [.agg (encPt p)] (.ret (.bool (ptOK p))):=by
 refine zT mix Tryz.func226 Tryz.ntmps226 Tryz.results226 rfl rfl rfl ?_;simp only[qac,Nat.reduceAdd]
 repeat'(first|((with_reducible apply qad);rfl;(exact qBU _ _ _);rfl)|refine zQ ?_|(refine zG ?_ ?_<;>first|intro h|simp)|refine zE ?_|fail)
 all_goals (simp only[ptOK];simp_all;try omega)
theorem c46(p:Pt):Contract Tryz.prog 235 [.agg (encPt p)] (.ret (.bool (ptOK p))):=by
 refine zT mix Tryz.func235 Tryz.ntmps235 Tryz.results235 rfl rfl rfl ?_;simp only[qac,Nat.reduceAdd]
 repeat'(first|((with_reducible apply qad);rfl;(exact c38 _ _ _);rfl)|refine zQ ?_|(refine zG ?_ ?_<;>first|intro h|simp)|refine zE ?_|fail)
 all_goals (simp only[ptOK];simp_all;try omega)
theorem qFF(n:Int):Contract Tryz.prog 227 [.int .i64 n] (.ret (.bool (qhp n))):=by
 refine zT mix Tryz.func227 Tryz.ntmps227 Tryz.results227 rfl rfl rfl ?_;simp only[qac,Nat.reduceAdd]
 repeat'(first|((with_reducible apply qad);rfl;(exact qBU _ _ _);rfl)|refine zQ ?_|refine zE ?_|fail)
 rfl
theorem c48(n:Int):Contract Tryz.prog 105 [.int .i64 n] (.ret (.bool (qhp n))):=by
 refine zT mix Tryz.func105 Tryz.ntmps105 Tryz.results105 rfl rfl rfl ?_;simp only[qac,Nat.reduceAdd]
 repeat'(first|((with_reducible apply qad);rfl;(exact c38 _ _ _);rfl)|refine zQ ?_|refine zE ?_|fail)
 rfl
theorem qJl(x:Soil)(s:ByteArray):Contract Tryz.prog 266 [.agg (qaC x),.ptr [.str s]] (.ret (.bool (decide (x.name=s)))):=by
 refine zT mix Tryz.func266 Tryz.ntmps266 Tryz.results266 rfl rfl rfl ?_;simp only[qac,Nat.reduceAdd]
 repeat'(first|(with_reducible rfl)|refine zQ ?_|((with_reducible apply qaG);rfl;rfl)|refine zE ?_|fail)
theorem qFG(l:List Soil)(hl:l.length<1000000000000)(s:ByteArray):Contract Tryz.prog 228 [.sl (l.map qaC),.str s] (.ret (.int .i64 (qa9 l s))):=by
 refine zT mix Tryz.func228 Tryz.ntmps228 Tryz.results228 rfl rfl rfl ?_;simp only[qac,Nat.reduceAdd]
 repeat'(first|refine zQ ?_|fail)
 refine qaj (args':=[.sl (l.map qaC),.clo (.func 266) [] [.ptr [.str s]]]) rfl (qH1 l hl 266 _ (fun _ _=>rfl) rfl (fun x=>decide (x.name=s)) fun x _=>qJl x s) rfl ?_
 repeat'(first|refine zA ?_|refine zE ?_|fail)
 rfl
structure Ground where
 soils:List Soil
 borings:List Boring
def qam(g:Ground):List D:=[.sl (g.soils.map qaC),.sl (g.borings.map qbs)]
def qou(l:List Soil)(ls:List Layer)(i:Nat):Int:=
 match ls[i]? with
 |none=>0
 |some x=>if qhp x.top=false then 2 else if 0<i∧((ls[i-1]?).map (·.top)).getD 0≤x.top then 9 else if qa9 l x.soil<0 then 6 else 0
def qm3(l:List Soil)(b:Boring):Int:=
 if ptOK ⟨b.x,b.y⟩=false then 2 else if b.layers.length=0 then 10 else if 12<b.layers.length then 8 else qct b.layers.length (qou l b.layers)
theorem qkC{l:List Soil}{ls:List Layer}{i:Nat}(hi:i<ls.length):qou l ls i=if qhp ls[i].top=false then 2 else if 0<i∧((ls[i-1]?).map (·.top)).getD 0≤ls[i].top then 9 else if qa9 l ls[i].soil<0 then 6 else 0:=by
 simp only[qou,List.getElem?_eq_getElem hi]
theorem qzf{l:List Soil}{ls:List Layer}{i:Nat}(hi:i<ls.length)(h:qhp ls[i].top=false):qou l ls i=2:=by rw[qkC hi,if_pos h]
theorem qzg{l:List Soil}{ls:List Layer}{i:Nat}(hi:i<ls.length)(h1:qhp ls[i].top=true)(h2:0<i)(h3:(ls[i-1]'(by omega)).top≤ls[i].top):qou l ls i=9:=by
 rw[qkC hi,if_neg (by simp[h1]),if_pos ⟨h2,by rw[List.getElem?_eq_getElem (by omega)];exact h3⟩]
theorem qq9{l:List Soil}{ls:List Layer}{i:Nat}(hi:i<ls.length)(h1:qhp ls[i].top=true)(h2:i=0∨∃h:i-1<ls.length,¬ls[i-1].top≤ls[i].top)(h:qa9 l ls[i].soil<0):qou l ls i=6:=by
 rw[qkC hi,if_neg (by simp[h1]),if_neg,if_pos h]
 rintro⟨h3,h4⟩
 rcases h2 with h2|⟨h5,h2⟩
 ·omega
 ·rw[List.getElem?_eq_getElem h5]at h4;exact h2 h4
theorem qra{l:List Soil}{ls:List Layer}{i:Nat}(hi:i<ls.length)(h1:qhp ls[i].top=true)(h2:i=0∨∃h:i-1<ls.length,¬ls[i-1].top≤ls[i].top)(h:¬qa9 l ls[i].soil<0):qou l ls i=0:=by
 rw[qkC hi,if_neg (by simp[h1]),if_neg,if_neg h]
 rintro⟨h3,h4⟩
 rcases h2 with h2|⟨h5,h2⟩
 ·omega
 ·rw[List.getElem?_eq_getElem h5]at h4;exact h2 h4
theorem qi6{l:List Soil}{ls:List Layer}{i:Nat}{e:Int}(hi:i<ls.length)(hC:∀j,j<i→qou l ls j=0)(h:qou l ls i=e)(he:e≠0):e=qct ls.length (qou l ls):=by
 subst h
 exact(qhL hi hC he).symm
theorem qjD{l:List Soil}{ls:List Layer}{i:Nat}(hC:∀j,j<i→qou l ls j=0)(h:qou l ls i=0):∀j,j<i+1→qou l ls j=0:=fun j hj=>by
 rcases Nat.lt_succ_iff_lt_or_eq.1 hj with h'|rfl
 ·exact hC j h'
 ·exact h
theorem c88(g:Ground)(b:Boring)(hl:g.soils.length<1000000000000):Contract Tryz.prog 165 [.agg (qam g),.agg (qbs b)] (.ret (.int .i64 (qm3 g.soils b))):=by
 refine zT mix Tryz.func165 Tryz.ntmps165 Tryz.results165 rfl rfl rfl ?_;simp only[qac,Nat.reduceAdd]
 repeat'(first|((with_reducible apply qad);rfl;(exact qFE ⟨b.x,b.y⟩);rfl)|refine zQ ?_|(refine zC ?_ ?_<;>first|intro h|simp)|refine zE ?_|fail)
 ·simp only[qm3];rw[if_pos h]
 ·rename_i h1
  simp only[qm3];rw[if_neg (by simp[h1]),if_pos (by omega)]
 ·rename_i h1 h2
  simp only[qm3];rw[if_neg (by simp[h1]),if_neg (by omega),if_pos (by omega)]
 rename_i h1 h2
 have hb:qm3 g.soils b=qct b.layers.length (qou g.soils b.layers):=by
  simp only[qm3];rw[if_neg (by simp[h1]),if_neg (by omega),if_neg (by omega)]
 rw[hb]
 refine qaf b.layers.length (fun i=>⟨[(28,.int .i64 i),(27,.int .i64 b.layers.length),(26,.sl (b.layers.map qeB)),(3,.op 32 0 0),(2,.op 0 0 0)],[(32,⟨4,true,[qbs b]⟩),(0,⟨2,true,[qam g]⟩)],64,62⟩) (fun i=>∀j,j<i→qou g.soils b.layers j=0)
  (qaa (k:=0) (ns:=[]) (ks:=[28,27,26,3,2]) [(32,32),(0,0)] rfl (by simp) rfl) (by omega) ?_
 intro i hi hC
 repeat'(first|((with_reducible (show qan _ (.call _) _ _ _ _));first|((with_reducible apply qad);rfl;(exact qFF _);rfl)|((with_reducible apply qaj);rfl;(exact qFG g.soils hl _);rfl))|refine zQ ?_|(refine zI ?_;intro hlt)|(refine zC ?_ ?_<;>first|intro h|simp)|(refine zG ?_ ?_<;>first|intro h|simp)|refine zE ?_|fail)
 all_goals try simp only[Int.toNat_natCast,show((i:Int)-1).toNat=i-1 by omega]at*
 all_goals first
  |exact(qaB fun j hj=>hC j (by omega)).symm
  |(have h3:i<b.layers.length:=by omega
    first
     |exact qi6 h3 hC (qzf h3 (by assumption)) (by decide)
     |exact qi6 h3 hC (qzg h3 (by assumption) (by omega) (by assumption)) (by decide)
     |exact qi6 h3 hC (qq9 h3 (by assumption) (.inl (by omega)) (by assumption)) (by decide)
     |exact qi6 h3 hC (qq9 h3 (by assumption) (.inr ⟨by omega,by assumption⟩) (by assumption)) (by decide)
     |exact⟨h3,qjD hC (qra h3 (by assumption) (.inl (by omega)) (by assumption)),qaa (k:=0) (ns:=[]) (ks:=[28,27,26,3,2]) [(32,32),(0,0)] rfl (by simp) rfl⟩
     |exact⟨h3,qjD hC (qra h3 (by assumption) (.inr ⟨by omega,by assumption⟩) (by assumption)),qaa (k:=0) (ns:=[]) (ks:=[28,27,26,3,2]) [(32,32),(0,0)] rfl (by simp) rfl⟩)
theorem qFJ(gr:Ground):qCu [.agg (qam gr)]:=fun hp m ds ds' h=>by
 show(pur hp (m+16) (.agg (qam gr))).bind _=_
 have:pur hp (m+16) (.agg (qam gr))=some (.agg (qam gr)):=rfl
 rw[this]
 simp only[Option.bind_some]
 show(qbQ hp (m+16) ([]++ds)).map _=_
 rw[List.nil_append,h]
 rfl
theorem qJq(l:List Boring)(hl:l.length<1000000000000)(g:FuncId)(gr:Ground)(nm:Boring→ByteArray)(er:Boring→Int)(hn:∀x,Contract Tryz.prog g [.agg (qbs x)] (.ret (.str (nm x))))(he:∀x,Contract Tryz.prog 165 [.agg (qam gr),.agg (qbs x)] (.ret (.int .i64 (er x)))):
  Contract Tryz.prog 163 [.sl (l.map qbs),.clo (.func g) [] [],.clo (.func 165) [.agg (qam gr)] []] (.ret (.int .i64 (qha nm er l))):=by
 refine zT mix Tryz.func163 Tryz.ntmps163 Tryz.results163 rfl rfl rfl ?_;simp only[qac,Nat.reduceAdd]
 repeat'(first|refine zQ ?_|fail)
 refine qaf l.length (fun i=>⟨[(13,.int .i64 i),(12,.int .i64 l.length),(11,.sl (l.map qbs)),(0,.sl (l.map qbs)),(2,.clo (.func 165) [.agg (qam gr)] []),(4,.op 0 0 0)],[(0,⟨1,false,[[.clo (.func g) [] []]]⟩)],32,36⟩) (fun i=>∀j,j<i→qce nm er l j=0) (qaa (k:=0) (ns:=[]) (ks:=[13,12,11,0,2,4]) [(0,0)] rfl (by simp) rfl) (by omega) ?_
 intro i hi hC
 repeat'(first|refine zQ ?_|(refine zI ?_;intro hlt)|(refine zC ?_ ?_<;>first|intro h|simp)|refine zE ?_|fail)
 refine qgo (d1:=.agg (qbs l[i])) rfl rfl (fun _ _=>rfl) (hn _) rfl ?_
 repeat'(first|refine zQ ?_|fail)
 refine qad (args':=[.str (nm l[i])]) rfl (qFD _) rfl ?_
 repeat'(first|refine zQ ?_|(refine zC ?_ ?_<;>first|intro h|simp)|refine zE ?_|fail)
 ·have h2:i<l.length:=by omega
  exact qaP h2 hC (by simp[qce,h2,h]) (by decide)
 refine qad (args':=[.sl ((l.take i).map qbs),.clo (.func 225) [] [.ptr [.clo (.func g) [] []],.ptr [.str (nm l[i])]]]) rfl (qJj (l.take i) (by simp;omega) 225 _ (fun _ _=>rfl) rfl (fun y=>decide (nm y=nm l[i])) fun y _=>qJk y _ _ g (hn y)) rfl ?_
 repeat'(first|refine zQ ?_|(refine zC ?_ ?_<;>first|intro h|simp)|refine zE ?_|fail)
 ·rename_i h1 _
  have h2:i<l.length:=by omega
  exact qaP h2 hC (by simp only[qce,List.getElem?_eq_getElem h2,h, *];simp) (by decide)
 refine qmL (xs:=[.agg (qam gr)]) (d1:=.agg (qbs l[i])) (zL rfl) rfl (fun _=>rfl) (qFJ gr) (he _) rfl (zL rfl) rfl ?_
 repeat'(first|refine zQ ?_|(refine zC ?_ ?_<;>first|intro h|simp)|refine zE ?_|fail)
 ·have h2:i<l.length:=by omega
  exact qaP h2 hC (by simp only[qce,List.getElem?_eq_getElem h2, *];simp) h
 ·have h2:i<l.length:=by omega
  refine⟨h2,fun j hj=>?_,qaa (k:=0) (ns:=[]) (ks:=[13,12,11,0,2,4]) [(0,0)] rfl (by simp) rfl⟩
  rcases Nat.lt_succ_iff_lt_or_eq.1 hj with h'|rfl
  ·exact hC j h'
  ·simp only[qce,List.getElem?_eq_getElem h2, *];simp
 ·refine(qaB fun j hj=>hC j (by omega)).symm
def qaI(g:Ground):Int:=if qdS g.soils≠0 then qdS g.soils else if g.borings.length=0 then 10 else if 20<g.borings.length then 8 else qha (·.name) (qm3 g.soils) g.borings
theorem c22(g:Ground)(hl:g.soils.length<1000000000000)(hb:g.borings.length<1000000000000):Contract Tryz.prog 88 [.agg (qam g)] (.ret (.int .i64 (qaI g))):=by
 refine zT mix Tryz.func88 Tryz.ntmps88 Tryz.results88 rfl rfl rfl ?_;simp only[qac,Nat.reduceAdd]
 repeat'(first|((with_reducible apply qaj);rfl;(exact c20 g.soils hl);rfl)|refine zQ ?_|(refine zC ?_ ?_<;>first|intro h|simp)|refine zE ?_|fail)
 ·simp only[qaI];rw[if_pos h]
 ·simp only[qaI];rw[if_neg (by simp[*]),if_pos (by omega)]
 ·simp only[qaI];rw[if_neg (by simp[*]),if_neg (by omega),if_pos (by omega)]
 refine qAl (us:=[.agg (qam g)]) (bs:=[]) rfl rfl rfl ?_
 repeat'(first|refine zA ?_|fail)
 refine qaj (args':=[.sl (g.borings.map qbs),.clo (.func 164) [] [],.clo (.func 165) [.agg (qam g)] []]) rfl (qJq g.borings hb 164 g (·.name) (qm3 g.soils) c87 fun x=>c88 g x hl) rfl ?_
 repeat'(first|refine zA ?_|refine zE ?_|fail)
 simp only[qaI];rw[if_neg (by simp[*]),if_neg (by omega),if_neg (by omega)]
end Go.Pv.Soil

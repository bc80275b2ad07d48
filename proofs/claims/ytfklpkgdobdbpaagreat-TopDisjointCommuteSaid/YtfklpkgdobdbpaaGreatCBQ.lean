import Derived.Laws.Pointers
import Derived.Tactics
import Derived.Tactics2
import Derived.Test.YtfklpkgdobdbpaaGreatCBL
/- Part of the proofs over YtfklpkgdobdbpaaGreat: N39. -/
set_option linter.unusedVariables false
set_option linter.unusedSimpArgs false
set_option linter.unnecessarySimpa false
open Go Go.Proofs Go.Pv
set_option maxHeartbeats 8000000
set_option maxRecDepth 100000
set_option linter.unusedSimpArgs false
set_option linter.unusedVariables false
namespace Go.Pv.Soil
def qnp(a b:List Nat):Bool:=a.any fun i=>inN b i
theorem qwD(b:List Nat)(hb:b.length<1000000000000)(i:Int):Contract Tryz.prog 294 [.int .i64 i,.ptr [.sl (b.map qcX)]] (.ret (.bool (inN b i))):=by
 have h1:=qBq b hb i
 refine zT mix Tryz.func294 Tryz.ntmps294 Tryz.results294 rfl rfl rfl ?_;simp only[qac,Nat.reduceAdd]
 repeat'(first|(with_reducible rfl)|refine zQ ?_|refine zF h1 ?_|refine zE ?_|fail)
theorem qyD(a b:List Nat)(ha:a.length<1000000000000)(hb:b.length<1000000000000):Contract Tryz.prog 263 [.sl (a.map qcX),.sl (b.map qcX)] (.ret (.bool (qnp a b))):=by
 have h1:=qAH (a.map fun i:Nat=>(i:Int)) (by simpa using ha) 294 [.ptr [.sl (b.map qcX)]] (fun _ _=>rfl) rfl (fun i=>inN b i) fun x _=>qwD b hb x
 have e:(a.map fun i:Nat=>(i:Int)).map qak=a.map qcX:=by rw[List.map_map];rfl
 have e2:((a.map fun i:Nat=>(i:Int)).any fun i=>inN b i)=qnp a b:=by rw[List.any_map];rfl
 rw[e,e2]at h1
 refine zT mix Tryz.func263 Tryz.ntmps263 Tryz.results263 rfl rfl rfl ?_;simp only[qac,Nat.reduceAdd]
 repeat'(first|(with_reducible rfl)|refine zQ ?_|refine zF h1 ?_|refine zE ?_|fail)
def qlv(p:Int×Int):List D:=[.int .i64 p.1,.int .i64 p.2]
theorem qDr:qeS qlv 2:=fun _=>⟨rfl,rfl⟩
def qFX(s:Site)(a b:Cut)(p q:Int×Int):Bool:=decide (max p.1 q.1<min p.2 q.2)&&(decide (a.dredger=b.dredger)||qnp (qaH s a) (qaH s b))
def qB1(s:Site)(l:List Cut)(sp:List (Int×Int))(k i:Nat):Bool:=match l[i]?,l[k]?,sp[i]?,sp[k]? with
 |some a,some b,some p,some q=>qFX s a b p q
 |_,_,_,_=>false
theorem qBx{s:Site}{l:List Cut}{sp:List (Int×Int)}{k i:Nat}(h1:i<l.length)(h2:k<l.length)(h3:i<sp.length)(h4:k<sp.length):qB1 s l sp k i=qFX s l[i] l[k] sp[i] sp[k]:=by
 simp only[qB1,List.getElem?_eq_getElem h1,List.getElem?_eq_getElem h2,List.getElem?_eq_getElem h3,List.getElem?_eq_getElem h4]
def crossE(s:Site)(l:List Cut)(sp:List (Int×Int))(k:Nat):Bool:=(List.range k).any (qB1 s l sp k)
theorem qwE{s:Site}{l:List Cut}{sp:List (Int×Int)}{k i:Nat}(hi:i<k)(h:qB1 s l sp k i=true):crossE s l sp k=true:=List.any_eq_true.2 ⟨i,List.mem_range.2 hi,h⟩
theorem qyE{s:Site}{l:List Cut}{sp:List (Int×Int)}{k:Nat}(h:∀i,i<k→qB1 s l sp k i=false):crossE s l sp k=false:=List.any_eq_false.2 fun i hi=>by rw[h i (List.mem_range.1 hi)];simp
theorem qwF(s:Site)(hs:OkGrid s.bed)(l:List Cut)(hll:l.length≤1000000)(hl:∀i (hi:i<l.length),OkCut s l[i])(sp:List (Int×Int))(k:Nat)(hk:k<l.length)(hsp:k<sp.length):Contract Tryz.prog 217 [.agg (encSite s),.sl (l.map encCut),.sl (sp.map qlv),.int .i64 k] (.ret (.bool (crossE s l sp k))):=by
 have h2:=qdv s hs l[k] (hl k hk)
 obtain⟨ha2,hlt2,hpos2,hle2⟩:=qby hs (hl k hk)
 refine zT mix Tryz.func217 Tryz.ntmps217 Tryz.results217 rfl rfl rfl ?_;simp only[qac,Nat.reduceAdd]
 repeat'(first|refine zQ ?_|fail)
 refine qaf k (fun i=>⟨[(17,.int .i64 i),(16,.int .i64 ((l.take k).length:Nat)),(15,.sl ((l.take k).map encCut)),(1,.sl (l.map encCut)),(2,.sl (sp.map qlv)),(3,.int .i64 k),(4,.op 0 0 0)],[(0,⟨12,true,[encSite s]⟩)],32,64⟩) (fun i=>∀j,j<i→qB1 s l sp k j=false) ?_ (by omega) ?_
 ·exact qaa (nx:=32) (k:=0) (ns:=[]) (ks:=[17,16,15,1,2,3,4]) [(0,0)] rfl (by simp) (by kernel_rfl)
 intro i hi hC
 have htl:(l.take k).length=k:=by rw[List.length_take];omega
 by_cases hL:i<k
 ·have hil:i<l.length:=by omega
  have his:i<sp.length:=by omega
  have htk:∀(hh:i<(l.take k).length),(l.take k)[i]=l[i]:=fun hh=>List.getElem_take
  have h1:Contract Tryz.prog 121 [.agg (encSite s),.agg (encCut ((l.take k)[i]'(by omega)))] (.ret (.sl ((qaH s l[i]).map qcX))):=by rw[htk];exact qdv s hs l[i] (hl i hil)
  obtain⟨ha1,hlt1,hpos1,hle1⟩:=qby hs (hl i hil)
  have h3:=qyD (qaH s l[i]) (qaH s l[k]) (by omega) (by omega)
  have hw:=qBx (s:=s) (k:=k) hil hk his hsp
  have hyes:=fun h=>qwE (s:=s) (l:=l) (sp:=sp) hL h
  unfold qFX at hw
  generalize qaH s l[i]=f1 at*
  generalize qaH s l[k]=f2 at*
  generalize qnp f1 f2=cm at*
  repeat'(first|((with_reducible apply(qba 10 [[4,5,6,7],[]]));decide +kernel;rfl)|(with_reducible apply qa1)|(with_reducible apply qax)|(with_reducible apply qav)|(with_reducible apply qb1)|(with_reducible apply qaF)|(with_reducible apply qc4)|(with_reducible apply qay)|((with_reducible apply qbn);rfl;(intro id'))|((with_reducible apply qa2);rfl)|refine zS ?_|refine zA ?_|refine zF h1 ?_|refine zF h2 ?_|refine zF h3 ?_|(refine zI ?_;intro hlt)|(refine zC ?_ ?_<;>first|intro h|simp)|(refine zG ?_ ?_<;>first|intro h|simp)|((with_reducible apply qaG);rfl;rfl)|refine zE ?_|fail)
  all_goals try exact absurd hL (by omega)
  all_goals clear h1 h2 h3 ha1 ha2 hlt1 hlt2 hpos1 hpos2 hle1 hle2
  all_goals try simp only[htk]at*
  all_goals first
   |exact(hyes (hw.trans (by simp_all;done))).symm
   |(refine⟨by omega,fun j hj=>?_,qaa (nx:=32) (k:=0) (ns:=[]) (ks:=[17,16,15,1,2,3,4]) [(0,0)] rfl (by simp) (by kernel_rfl)⟩
     rcases Nat.lt_succ_iff_lt_or_eq.1 hj with h'|rfl
     ·exact hC j h'
     ·exact hw.trans (by first|(simp_all;done)|(simp_all;intro hh;omega)))
   |trace_state
 ·rw[qyE fun j hj=>hC j (by omega)]
  repeat'(first|((with_reducible apply(qba 10 [[4,5,6,7],[]]));decide +kernel;rfl)|(with_reducible apply qa1)|(with_reducible apply qax)|(with_reducible apply qav)|(with_reducible apply qb1)|(with_reducible apply qaF)|(with_reducible apply qc4)|(with_reducible apply qay)|((with_reducible apply qbn);rfl;(intro id'))|((with_reducible apply qa2);rfl)|(with_reducible rfl)|refine zS ?_|refine zA ?_|(refine zI ?_;intro hlt)|(refine zC ?_ ?_<;>first|intro h|simp)|(refine zG ?_ ?_<;>first|intro h|simp)|((with_reducible apply qaG);rfl;rfl)|refine zE ?_|fail)
  all_goals first
   |exact absurd hL (by omega)
   |rfl
   |trace_state
end Go.Pv.Soil

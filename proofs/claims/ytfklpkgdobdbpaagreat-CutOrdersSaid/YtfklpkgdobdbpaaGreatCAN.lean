import Derived.Test.YtfklpkgdobdbpaaGreatCAH
import Derived.Test.YtfklpkgdobdbpaaGreatCAM
/- Part of the proofs over YtfklpkgdobdbpaaGreat: PH2, PH3, PH4, S7, PH14, PH16, Q3. -/
set_option linter.unusedVariables false
set_option linter.unusedSimpArgs false
set_option linter.unnecessarySimpa false
open Go Go.Proofs Go.Pv
set_option maxHeartbeats 8000000
set_option maxRecDepth 100000
set_option linter.unusedSimpArgs false
set_option linter.unusedVariables false
namespace Go.Pv.Geo
def qbq(a d:Pt):Prop:=(-20000≤a.x-d.x∧a.x-d.x≤20000)∧ -20000≤a.y-d.y∧a.y-d.y≤20000
def qzI(n:Int):Int:=if n<0 then 0-n else n
theorem qHT(n:Int)(h: -9223372036854775807≤n)(h':n≤9223372036854775807):Contract Tryz.prog 136 [.int .i64 n] (.ret (.int .i64 (qzI n))):=by
 refine zT mix Tryz.func136 Tryz.ntmps136 Tryz.results136 rfl rfl rfl ?_;simp only[qab,Nat.reduceAdd]
 repeat'(first|refine zQ ?_|(refine zC ?_ ?_<;>first|intro h|simp)|refine zE ?_|fail)
 all_goals (unfold qzI;first|rw[if_pos (by assumption)]|rw[if_neg (by omega)])
def crossX(a b c:Pt):Int:=if(ptOK a&&ptOK b&&ptOK c)=true then crossE a b c else 0
theorem ok2{a b:Pt}(h:(ptOK a&&ptOK b)=true):ptOK a=true∧ptOK b=true:=by simpa using h
theorem ok3{a b c:Pt}(h:(ptOK a&&ptOK b&&ptOK c)=true):ptOK a=true∧ptOK b=true∧ptOK c=true:=by
 simp only[Bool.and_eq_true]at h;exact⟨h.1.1,h.1.2,h.2⟩
theorem c_Cross(a b c:Pt):Contract Tryz.prog 290 [.agg (encPt a),.agg (encPt b),.agg (encPt c)] (.ret (.int .i64 (crossX a b c))):=by
 have h1:=qlj a b c
 unfold crossX
 cases hok:ptOK a&&ptOK b&&ptOK c
 ·rw[hok]at h1
  refine zT mix Tryz.func290 Tryz.ntmps290 Tryz.results290 rfl rfl rfl ?_;simp only[qab,Nat.reduceAdd]
  repeat'(first|((with_reducible apply qae);(exact qbT rfl (by simp) rfl);(exact h1);rfl)|refine zQ ?_|refine zE ?_|fail)
  all_goals rfl
 ·rw[hok]at h1
  obtain⟨ha,hb,hc⟩:=ok3 hok
  refine zT mix Tryz.func290 Tryz.ntmps290 Tryz.results290 rfl rfl rfl ?_;simp only[qab,Nat.reduceAdd]
  repeat'(first|((with_reducible (show qap _ (.call _) _ _ _ _));first|((with_reducible apply qae);(exact qbT rfl (by simp) rfl);(exact h1);rfl)|((with_reducible apply qaj);rfl;(exact qji a b c ha hb hc);rfl))|refine zQ ?_|refine zE ?_|fail)
  all_goals rfl
def cr(b c d:Pt):Int:=(b.x-d.x)*(c.y-d.y)-(b.y-d.y)*(c.x-d.x)
end Go.Pv.Geo
namespace Go.Pv.Soil
theorem c89(l:List Soil)(b:Boring)(hl:l.length<1000000000000):Contract Tryz.prog 175 [.sl (l.map qaG),.agg (qbG b)] (.ret (.int .i64 (qn9 l b))):=by
 refine zT mix Tryz.func175 Tryz.ntmps175 Tryz.results175 rfl rfl rfl ?_;simp only[qab,Nat.reduceAdd]
 repeat'(first|((with_reducible apply qae);rfl;(exact c46 ⟨b.x,b.y⟩);rfl)|refine zQ ?_|(refine zC ?_ ?_<;>first|intro h|simp)|refine zE ?_|fail)
 ·simp only[qn9];rw[if_pos h]
 ·rename_i h1
  simp only[qn9];rw[if_neg (by simp[h1]),if_pos (by omega)]
 ·rename_i h1 h2
  simp only[qn9];rw[if_neg (by simp[h1]),if_neg (by omega),if_pos (by omega)]
 rename_i h1 h2
 have hb:qn9 l b=qcK b.layers.length (qpz l b.layers):=by
  simp only[qn9];rw[if_neg (by simp[h1]),if_neg (by omega),if_neg (by omega)]
 rw[hb]
 refine qad b.layers.length (fun i=>⟨[(5,.int .i64 i),(0,.sl (l.map qaG)),(3,.op 0 0 0)],[(0,⟨4,true,[qbG b]⟩)],32,63⟩) (fun i=>∀j,j<i→qpz l b.layers j=0)
  (qaa (k:=0) (ns:=[]) (ks:=[5,0,3]) [(0,0)] rfl (by simp) rfl) (by omega) ?_
 intro i hi hC
 repeat'(first|((with_reducible (show qap _ (.call _) _ _ _ _));first|((with_reducible apply qae);rfl;(exact c48 _);rfl)|((with_reducible apply qaj);rfl;(exact c84 l hl _);rfl))|refine zQ ?_|(refine zI ?_;intro hlt)|(refine zC ?_ ?_<;>first|intro h|simp)|(refine zG ?_ ?_<;>first|intro h|simp)|refine zE ?_|fail)
 all_goals try simp only[Int.toNat_natCast,show((i:Int)-1).toNat=i-1 by omega]at*
 all_goals first
  |exact(qaC fun j hj=>hC j (by omega)).symm
  |(have h3:i<b.layers.length:=by omega
    first
     |exact qjK h3 hC (qBk h3 (by assumption)) (by decide)
     |exact qjK h3 hC (qBl h3 (by assumption) (by omega) (by assumption)) (by decide)
     |exact qjK h3 hC (qsB h3 (by assumption) (.inl (by omega)) (by assumption)) (by decide)
     |exact qjK h3 hC (qsB h3 (by assumption) (.inr ⟨by omega,by assumption⟩) (by assumption)) (by decide)
     |exact⟨h3,qki hC (qsC h3 (by assumption) (.inl (by omega)) (by assumption)),qaa (k:=0) (ns:=[]) (ks:=[5,0,3]) [(0,0)] rfl (by simp) rfl⟩
     |exact⟨h3,qki hC (qsC h3 (by assumption) (.inr ⟨by omega,by assumption⟩) (by assumption)),qaa (k:=0) (ns:=[]) (ks:=[5,0,3]) [(0,0)] rfl (by simp) rfl⟩)
end Go.Pv.Soil
namespace Go.Pv.Geo
theorem qu7{l:List Pt}{i j:Nat}(h:i%l.length=j%l.length):qaf l i=qaf l j:=by unfold qaf;rw[h]
theorem qu8(l:List Pt)(i:Nat):qaf l (i+l.length)=qaf l i:=qu7 (by simp)
def qhf(a b p:Pt):Bool:=
 let u:=if b.y<a.y then b else a
 let v:=if b.y<a.y then a else b
 decide ((u.y≤p.y∧p.y<v.y)∧0<crossE u v p)
def upX(a b p:Pt):Bool:=decide (¬(a.x≤p.x↔b.x≤p.x)∧(crossE a b p<0↔a.x<b.x))
theorem qDc{A B:Prop}[Decidable A][Decidable B]:(decide A ^^decide B)=decide (¬(A↔B)):=by
 by_cases h:A<;>by_cases h':B<;>simp[h,h']
def qD7(a p:Pt):Bool:=decide (p.x<a.x∧p.y<a.y)
theorem sg{u v:Int}:(¬0<u∨¬0<v∨0<u*v)∧(¬u<0∨¬0<v∨u*v<0)∧(¬0<u∨¬v<0∨u*v<0)∧(¬u<0∨¬v<0∨0<u*v)∧(¬u=0∨u*v=0)∧(¬v=0∨u*v=0):=by
 refine⟨?_,?_,?_,?_,?_,?_⟩
 ·by_cases h:0<u<;>by_cases h':0<v<;>simp[h,h']
  exact Int.mul_pos h h'
 ·by_cases h:u<0<;>by_cases h':0<v<;>simp[h,h']
  exact Int.mul_neg_of_neg_of_pos h h'
 ·by_cases h:0<u<;>by_cases h':v<0<;>simp[h,h']
  exact Int.mul_neg_of_pos_of_neg h h'
 ·by_cases h:u<0<;>by_cases h':v<0<;>simp[h,h']
  exact Int.mul_pos_of_neg_of_neg h h'
 ·by_cases h:u=0
  ·right;rw[h,Int.zero_mul]
  ·left;exact h
 ·by_cases h:v=0
  ·right;rw[h,Int.mul_zero]
  ·left;exact h
theorem qDd{n:Int}:signE n<0↔n<0:=by unfold signE;(repeat' split)<;>omega
theorem qxR(a b p:Pt):crossE a b p=(a.x-p.x)*(b.y-p.y)-(a.y-p.y)*(b.x-p.x):=by simp only[crossE];grind
theorem qz9{x1 y1 x2 y2 P Q:Int}(hy:¬y2<y1)
  (s1:(¬0<x1∨¬0<y2∨0<P)∧(¬x1<0∨¬0<y2∨P<0)∧(¬0<x1∨¬y2<0∨P<0)∧(¬x1<0∨¬y2<0∨0<P)∧(¬x1=0∨P=0)∧(¬y2=0∨P=0))
  (s2:(¬0<y1∨¬0<x2∨0<Q)∧(¬y1<0∨¬0<x2∨Q<0)∧(¬0<y1∨¬x2<0∨Q<0)∧(¬y1<0∨¬x2<0∨0<Q)∧(¬y1=0∨Q=0)∧(¬x2=0∨Q=0))
  (h:¬(P-Q=0∧(min x1 x2≤0∧0≤max x1 x2)∧min y1 y2≤0∧0≤max y1 y2)):
  (¬((¬(x1≤0↔x2≤0)∧(P-Q<0↔x1<x2))↔((y1≤0∧0<y2)∧0<P-Q)))↔¬((0<x1∧0<y1)↔(0<x2∧0<y2)):=by
 by_cases c1:x1≤0<;>by_cases c2:x2≤0<;>by_cases c3:y1≤0<;>by_cases c4:y2≤0<;>simp only[c1,c2,c3,c4,true_and,and_true,false_and,and_false,iff_true,true_iff,iff_false,false_iff,not_true_eq_false,not_false_eq_true]<;>omega
theorem qAa{x1 y1 x2 y2 P Q:Int}(hy:y2<y1)
  (s1:(¬0<x1∨¬0<y2∨0<P)∧(¬x1<0∨¬0<y2∨P<0)∧(¬0<x1∨¬y2<0∨P<0)∧(¬x1<0∨¬y2<0∨0<P)∧(¬x1=0∨P=0)∧(¬y2=0∨P=0))
  (s2:(¬0<y1∨¬0<x2∨0<Q)∧(¬y1<0∨¬0<x2∨Q<0)∧(¬0<y1∨¬x2<0∨Q<0)∧(¬y1<0∨¬x2<0∨0<Q)∧(¬y1=0∨Q=0)∧(¬x2=0∨Q=0))
  (h:¬(P-Q=0∧(min x1 x2≤0∧0≤max x1 x2)∧min y1 y2≤0∧0≤max y1 y2)):
  (¬((¬(x1≤0↔x2≤0)∧(P-Q<0↔x1<x2))↔((y2≤0∧0<y1)∧0< -(P-Q))))↔¬((0<x1∧0<y1)↔(0<x2∧0<y2)):=by
 by_cases c1:x1≤0<;>by_cases c2:x2≤0<;>by_cases c3:y1≤0<;>by_cases c4:y2≤0<;>simp only[c1,c2,c3,c4,true_and,and_true,false_and,and_false,iff_true,true_iff,iff_false,false_iff,not_true_eq_false,not_false_eq_true]<;>omega
theorem le0{u v:Int}:u-v≤0↔u≤v:=by omega
theorem lt0{u v:Int}:0<u-v↔v<u:=by omega
theorem ltd{u v w:Int}:u-w<v-w↔u<v:=by omega
theorem qAb{a b p:Pt}(h:onE a b p=false):(upX a b p ^^qhf a b p)=(qD7 a p ^^qD7 b p):=by
 rw[onE,decide_eq_false_iff_not]at h
 have e1:=qxR a b p
 have e2:crossE b a p= -crossE a b p:=by simp only[crossE];grind
 have s1:=sg (u:=a.x-p.x) (v:=b.y-p.y)
 have s2:=sg (u:=a.y-p.y) (v:=b.x-p.x)
 unfold upX qhf qD7
 simp only[qDc,e2]
 refine decide_eq_decide.2 ?_
 rw[e1]at h ⊢
 generalize (a.x-p.x)*(b.y-p.y)=P at*
 generalize (a.y-p.y)*(b.x-p.x)=Q at*
 by_cases hyy:b.y<a.y
 ·have:=qAa (x1:=a.x-p.x) (y1:=a.y-p.y) (x2:=b.x-p.x) (y2:=b.y-p.y) (P:=P) (Q:=Q) (by omega) s1 s2 (by omega)
  simp only[if_pos hyy,e2,e1]
  simp only[le0,lt0,ltd]at this
  exact this
 ·have:=qz9 (x1:=a.x-p.x) (y1:=a.y-p.y) (x2:=b.x-p.x) (y2:=b.y-p.y) (P:=P) (Q:=Q) (by omega) s1 s2 (by omega)
  simp only[if_neg hyy,e1]
  simp only[le0,lt0,ltd]at this ⊢
  exact this
def qhG(f:Nat→Bool):Nat→Bool
 |0=>false
 |i+1=>qhG f i ^^f i
theorem qpV(f g:Nat→Bool):∀n:Nat,(qhG f n ^^qhG g n)=qhG (fun i=>f i ^^g i) n
 |0=>rfl
 |n+1=>by
  simp only[qhG]
  rw[←qpV f g n]
  cases qhG f n<;>cases qhG g n<;>cases f n<;>cases g n<;>rfl
theorem qlH{f g:Nat→Bool}:∀{n:Nat},(∀i,i<n→f i=g i)→qhG f n=qhG g n
 |0,_=>rfl
 |n+1,h=>by simp only[qhG];rw[qlH fun i hi=>h i (by omega),h n (by omega)]
theorem qni(g:Nat→Bool):∀n:Nat,qhG (fun i=>g i ^^g (i+1)) n=(g 0 ^^g n)
 |0=>by simp[qhG]
 |n+1=>by
  simp only[qhG]
  rw[qni g n]
  cases g 0<;>cases g n<;>cases g (n+1)<;>rfl
def qok(l:List Pt)(p:Pt):Bool:=(List.range l.length).any fun i=>onE (qaf l i) (qaf l (i+1)) p
def qtd(l:List Pt)(p:Pt)(n:Nat):Bool:=qhG (fun i=>qhf (qaf l i) (qaf l (i+1)) p) n
def qvD(l:List Pt)(p:Pt)(n:Nat):Bool:=qhG (fun i=>upX (qaf l i) (qaf l (i+1)) p) n
theorem qpW{l:List Pt}{p:Pt}{i:Nat}(hi:i<l.length)(h:onE (qaf l i) (qaf l (i+1)) p=true):qok l p=true:=List.any_eq_true.2 ⟨i,List.mem_range.2 hi,h⟩
theorem qte{l:List Pt}{p:Pt}(h:∀i,i<l.length→onE (qaf l i) (qaf l (i+1)) p=false):qok l p=false:=by
 rw[qok,List.any_eq_false]
 intro i hi
 rw[h i (List.mem_range.1 hi)];simp
theorem qAc{l:List Pt}{p:Pt}(h:qok l p=false):qvD l p l.length=qtd l p l.length:=by
 have h':∀i,i<l.length→onE (qaf l i) (qaf l (i+1)) p=false:=fun i hi=>by
  rw[qok,List.any_eq_false]at h
  simpa using h i (List.mem_range.2 hi)
 have:(qvD l p l.length ^^qtd l p l.length)=false:=by
  unfold qvD qtd
  rw[qpV,qlH (g:=fun i=>qD7 (qaf l i) p ^^qD7 (qaf l (i+1)) p) fun i hi=>qAb (h' i hi),qni (fun i=>qD7 (qaf l i) p)]
  have:qaf l l.length=qaf l 0:=by have:=qu8 l 0;rwa[Nat.zero_add]at this
  rw[this];simp
 revert this
 cases qvD l p l.length<;>cases qtd l p l.length<;>simp
def qu9(l:List Pt)(p:Pt):Int:=if qok l p=true then 0 else if qtd l p l.length=true then 1 else -1
end Go.Pv.Geo
namespace Go.Pv.Ord
variable {n:Nat}{R p:Nat→Nat→Int}
def nx(R:Nat→Nat→Int)(s k:Nat):Bool:= !s.testBit k&&decide (R s k=0)
def ordL(n:Nat)(R:Nat→Nat→Int):Nat→Nat→List (List Nat)
 |0,_=>[[]]
 |m+1,s=>(List.range n).flatMap fun k=>if nx R s k=true then(ordL n R m (s|||2^k)).map (k:: ·)else []
def ql1(p:Nat→Nat→Int):Nat→List Nat→Int
 |_,[]=>0
 |s,k::r=>p s k+ql1 p (s|||2^k) r
def upd(cur v:Option Int):Option Int:=match v with
 |none=>cur
 |some x=>match cur with
  |none=>some x
  |some c=>if x<c then some x else some c
def best(l:List (Option Int)):Option Int:=l.foldl upd none
def planO(n:Nat)(R p:Nat→Nat→Int):Nat→Nat→Option Int
 |0,_=>some 0
 |m+1,s=>best ((List.range n).map fun k=>if nx R s k=true then(planO n R p m (s|||2^k)).map (p s k+ ·)else none)
def qhK(n:Nat)(R p:Nat→Nat→Int)(m s k:Nat):Option Int:=if nx R s k=true then(planO n R p m (s|||2^k)).map (p s k+ ·)else none
theorem qjr(m s:Nat):planO n R p (m+1) s=best ((List.range n).map (qhK n R p m s)):=rfl
def qbn(n:Nat)(R p:Nat→Nat→Int):Nat→Nat→List Nat
 |0,_=>[]
 |m+1,s=>match(List.range n).find? fun k=>decide (qhK n R p m s k=planO n R p (m+1) s)with
  |some k=>k::qbn n R p m (s|||2^k)
  |none=>[]
def qov{α:Type}(f:α→Int)(l:List α)(x:α):Prop:=∃l1 l2,l=l1++x::l2∧(∀y∈l1,f x<f y)∧∀y∈l2,f x≤f y
theorem qqi(l:List (Option Int))(v:Option Int):best (l++[v])=upd (best l) v:=by simp[best]
theorem qAB{α:Type}{P:List α→Prop}(h0:P [])(h1:∀l a,P l→P (l++[a]))(l:List α):P l:=by
 have key:∀l:List α,P l.reverse:=fun l=>by
  induction l with
  |nil=>exact h0
  |cons a l ih=>rw[List.reverse_cons];exact h1 _ _ ih
 have:=key l.reverse
 rwa[List.reverse_reverse]at this
theorem qAC{α β:Type}{f:β→Int}{v:α→Option Int}{L:α→List β}{x:α→β}(hn:∀k,v k=none→L k=[])(hs:∀k c,v k=some c→qov f (L k) (x k)∧f (x k)=c):∀(ks:List α),
  (best (ks.map v)=none→ks.flatMap L=[]∧∀k∈ks,v k=none)∧∀c,best (ks.map v)=some c→∃k,ks.find? (fun k=>decide (v k=some c))=some k∧qov f (ks.flatMap L) (x k)∧f (x k)=c∧∀y∈ks.flatMap L,c≤f y:=by
 refine qAB ⟨fun _=>⟨rfl,by simp⟩,fun c h=>by simp[best]at h⟩ ?_
 ·intro ks k ih
  obtain⟨ih0,ih1⟩:=ih
  rw[List.map_append,List.map_singleton,qqi,List.flatMap_append,List.flatMap_singleton]
  cases hv:v k with
  |none=>
   rw[hn k hv,List.append_nil]
   refine⟨fun h=>?_,fun c h=>?_⟩
   ·obtain⟨h1,h2⟩:=ih0 h
    refine⟨h1,fun j hj=>?_⟩
    rcases List.mem_append.1 hj with hj|hj
    ·exact h2 j hj
    ·rw[List.mem_singleton.1 hj];exact hv
   ·obtain⟨j,h1,h2⟩:=ih1 c h
    exact⟨j,by rw[List.find?_append,h1];rfl,h2⟩
  |some c'=>
   obtain⟨hm,hf⟩:=hs k c' hv
   have hge:∀y∈L k,c'≤f y:=fun y hy=>by
    obtain⟨l1,l2,e,h1,h2⟩:=hm
    rw[e]at hy
    rcases List.mem_append.1 hy with hy|hy
    ·have:=h1 y hy;omega
    ·rcases List.mem_cons.1 hy with rfl|hy
     ·omega
     ·have:=h2 y hy;omega
   refine⟨fun h=>?_,fun c h=>?_⟩
   ·simp only[upd]at h
    split at h
    ·cases h
    ·split at h<;>cases h
   ·cases hb:best (ks.map v)with
    |none=>
     obtain⟨h1,h2⟩:=ih0 hb
     rw[hb]at h
     simp only[upd,Option.some.injEq]at h
     subst h
     refine⟨k,?_,?_,hf,?_⟩
     ·rw[List.find?_append]
      have:ks.find? (fun k=>decide (v k=some c'))=none:=by
       rw[List.find?_eq_none]
       intro j hj
       simp[h2 j hj]
      rw[this]
      simp[hv]
     ·rw[h1,List.nil_append];exact hm
     ·rw[h1,List.nil_append];exact hge
    |some c0=>
     obtain⟨j,h1,h2,h3,h4⟩:=ih1 c0 hb
     rw[hb]at h
     simp only[upd]at h
     split at h
     ·rename_i hlt
      injection h with h
      subst h
      refine⟨k,?_,?_,hf,fun y hy=>?_⟩
      ·rw[List.find?_append]
       have:ks.find? (fun k=>decide (v k=some c'))=none:=by
        rw[List.find?_eq_none]
        intro i hi hd
        have hd:=of_decide_eq_true hd
        obtain⟨hm',hf'⟩:=hs i c' hd
        obtain⟨l1,l2,e,_⟩:=hm'
        have:=h4 (x i) (List.mem_flatMap.2 ⟨i,hi,by rw[e];simp⟩)
        omega
       rw[this]
       simp[hv]
      ·obtain⟨l1,l2,e,g1,g2⟩:=hm
       refine⟨ks.flatMap L++l1,l2,by rw[e];simp,fun y hy=>?_,g2⟩
       rcases List.mem_append.1 hy with hy|hy
       ·have:=h4 y hy;omega
       ·exact g1 y hy
      ·rcases List.mem_append.1 hy with hy|hy
       ·have:=h4 y hy;omega
       ·exact hge y hy
     ·rename_i hlt
      injection h with h
      subst h
      refine⟨j,by rw[List.find?_append,h1];rfl,?_,h3,fun y hy=>?_⟩
      ·obtain⟨l1,l2,e,g1,g2⟩:=h2
       refine⟨l1,l2++L k,by rw[e];simp,g1,fun y hy=>?_⟩
       rcases List.mem_append.1 hy with hy|hy
       ·exact g2 y hy
       ·have:=hge y hy;omega
      ·rcases List.mem_append.1 hy with hy|hy
       ·exact h4 y hy
       ·have:=hge y hy;omega
theorem plan_first:∀(m s:Nat),(planO n R p m s=none→ordL n R m s=[])∧∀c,planO n R p m s=some c→qov (ql1 p s) (ordL n R m s) (qbn n R p m s)∧ql1 p s (qbn n R p m s)=c
 |0,s=>⟨fun h=>by simp[planO]at h,fun c h=>by
   simp only[planO,Option.some.injEq]at h
   subst h
   exact⟨⟨[],[],rfl,by simp,by simp⟩,rfl⟩⟩
 |m+1,s=>by
  have key:=qAC (f:=ql1 p s) (v:=qhK n R p m s) (L:=fun k=>if nx R s k=true then(ordL n R m (s|||2^k)).map (k:: ·)else []) (x:=fun k=>k::qbn n R p m (s|||2^k)) (fun k h=>by
   simp only[qhK]at h
   split
   ·rename_i hk
    rw[if_pos hk,Option.map_eq_none_iff]at h
    rw[(plan_first m (s|||2^k)).1 h]
    rfl
   ·rfl) (fun k c h=>by
   simp only[qhK]at h
   split at h
   ·rename_i hk
    obtain⟨q,hq,rfl⟩:=Option.map_eq_some_iff.1 h
    obtain⟨⟨l1,l2,e,g1,g2⟩,g3⟩:=(plan_first m (s|||2^k)).2 q hq
    rw[if_pos hk]
    refine⟨⟨l1.map (k:: ·),l2.map (k:: ·),by rw[e];simp,fun y hy=>?_,fun y hy=>?_⟩,by simp only[ql1,g3]⟩
    ·obtain⟨z,hz,rfl⟩:=List.mem_map.1 hy
     have:=g1 z hz
     simp only[ql1];omega
    ·obtain⟨z,hz,rfl⟩:=List.mem_map.1 hy
     have:=g2 z hz
     simp only[ql1];omega
   ·cases h) (List.range n)
  rw[qjr]
  refine⟨fun h=>(key.1 h).1,fun c h=>?_⟩
  obtain⟨k,h1,h2,h3,_⟩:=key.2 c h
  have e:qbn n R p (m+1) s=k::qbn n R p m (s|||2^k):=by
   simp only[qbn,qjr,h]
   rw[h1]
  rw[e]
  exact⟨h2,h3⟩
end Go.Pv.Ord

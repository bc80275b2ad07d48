import Derived.Test.YtfklpkgdobdbpaaGreatCAP
import Derived.Test.YtfklpkgdobdbpaaGreatCBA
/- Part of the proofs over YtfklpkgdobdbpaaGreat: PH18. -/
set_option linter.unusedVariables false
set_option linter.unusedSimpArgs false
set_option linter.unnecessarySimpa false
open Go Go.Proofs Go.Pv
set_option maxHeartbeats 8000000
set_option maxRecDepth 100000
set_option linter.unusedSimpArgs false
set_option linter.unusedVariables false
namespace Go.Pv.Geo
def qeI(a b:Pt):List Pt:=[a,⟨b.x,a.y⟩,b,⟨a.x,b.y⟩]
def qth(a b:Pt):List D:=[.int .i64 a.x,.int .i64 a.y,.int .i64 b.x,.int .i64 a.y,.int .i64 b.x,.int .i64 b.y,.int .i64 a.x,.int .i64 b.y]
theorem qBB{a b:Pt}(ha:ptOK a=true)(hb:ptOK b=true):∀p∈qeI a b,ptOK p=true:=by
 have h1:=qeQ ha
 have h2:=qeQ hb
 intro p hp
 simp only[qeI,List.mem_cons,List.not_mem_nil,or_false]at hp
 rcases hp with rfl|rfl|rfl|rfl
 ·exact ha
 ·simp only[ptOK,decide_eq_true_eq];omega
 ·exact hb
 ·simp only[ptOK,decide_eq_true_eq];omega
theorem qG4(a b:Pt):qaf (qeI a b) 3=⟨a.x,b.y⟩:=by simp[qaf,qeI]
theorem qFa(a b:Pt):qaf (qeI a b) 4=a:=by simp[qaf,qeI]
def qix(a b p:Pt):Bool:=decide ((a.x≤p.x∧p.x≤b.x)∧a.y≤p.y∧p.y≤b.y)
def qiy(l:List Pt)(a b:Pt)(k:Nat):Bool:=decide (0≤qu9 l (qaf (qeI a b) k))
def qb4(l:List Pt)(a b:Pt)(i k:Nat):Bool:=qf7 (qaf l i) (qaf l (i+1)) (qaf (qeI a b) k) (qaf (qeI a b) (k+1))
def touchE(l:List Pt)(a b:Pt):Bool:=((List.range 4).any fun k=>qiy l a b k)||(List.range l.length).any fun i=>qix a b (qaf l i)||(List.range 4).any fun k=>qb4 l a b i k
theorem qpX{l:List Pt}{a b:Pt}{k:Nat}(hk:k<4)(h:qiy l a b k=true):touchE l a b=true:=by
 rw[touchE,List.any_eq_true.2 ⟨k,List.mem_range.2 hk,h⟩,Bool.true_or]
theorem qti{l:List Pt}{a b:Pt}{i:Nat}(hi:i<l.length)(h:qix a b (qaf l i)=true):touchE l a b=true:=by
 have:((List.range l.length).any fun i=>qix a b (qaf l i)||(List.range 4).any fun k=>qb4 l a b i k)=true:=List.any_eq_true.2 ⟨i,List.mem_range.2 hi,by rw[h,Bool.true_or]⟩
 rw[touchE,this,Bool.or_true]
theorem qpY{l:List Pt}{a b:Pt}{i k:Nat}(hi:i<l.length)(hk:k<4)(h:qb4 l a b i k=true):touchE l a b=true:=by
 have:((List.range l.length).any fun i=>qix a b (qaf l i)||(List.range 4).any fun k=>qb4 l a b i k)=true:=List.any_eq_true.2 ⟨i,List.mem_range.2 hi,by rw[List.any_eq_true.2 ⟨k,List.mem_range.2 hk,h⟩,Bool.or_true]⟩
 rw[touchE,this,Bool.or_true]
theorem qtj{l:List Pt}{a b:Pt}(h1:∀k,k<4→qiy l a b k=false)(h2:∀i,i<l.length→qix a b (qaf l i)=false∧∀k,k<4→qb4 l a b i k=false):touchE l a b=false:=by
 have e1:((List.range 4).any fun k=>qiy l a b k)=false:=by
  rw[List.any_eq_false];intro k hk;rw[h1 k (List.mem_range.1 hk)];simp
 have e2:((List.range l.length).any fun i=>qix a b (qaf l i)||(List.range 4).any fun k=>qb4 l a b i k)=false:=by
  rw[List.any_eq_false];intro i hi
  obtain⟨q1,q2⟩:=h2 i (List.mem_range.1 hi)
  have:((List.range 4).any fun k=>qb4 l a b i k)=false:=by rw[List.any_eq_false];intro k hk;rw[q2 k (List.mem_range.1 hk)];simp
  rw[q1,this];simp
 rw[touchE,e1,e2];rfl
def touchX(l:List Pt)(a b:Pt):Bool×Int:=
 if polyE l≠0 then(false,polyE l)else if(ptOK a&&ptOK b)=false then(false,2)else if b.x<a.x∨b.y<a.y then(false,9)else(touchE l a b,0)
theorem c_Touches(l:List Pt)(a b:Pt):Contract Tryz.prog 205 [.sl (l.map encPt),.agg (encPt a),.agg (encPt b)] (.ret (.tup [.bool (touchX l a b).1,.int .i64 (touchX l a b).2])):=by
 have hC:=c_CheckPolygon l
 have ho:=qli a b
 by_cases hz:polyE l=0
 rotate_left
 ·have e:touchX l a b=(false,polyE l):=if_pos hz
  rw[e]
  refine zT mix Tryz.func205 Tryz.ntmps205 Tryz.results205 rfl rfl rfl ?_;simp only[qab,Nat.reduceAdd]
  repeat'(first|refine zQ ?_|refine zF hC ?_|(refine zC ?_ ?_<;>first|intro h|simp)|refine zE ?_|fail)
  all_goals first|rfl|(exfalso;omega)
 rw[hz]at hC
 obtain⟨⟨h3,h40⟩,hok,-⟩:=qxi hz
 cases hab:ptOK a&&ptOK b
 ·have e:touchX l a b=(false,2):=by rw[touchX,if_neg (by omega),if_pos hab]
  rw[e]
  rw[hab]at ho
  refine zT mix Tryz.func205 Tryz.ntmps205 Tryz.results205 rfl rfl rfl ?_;simp only[qab,Nat.reduceAdd]
  repeat'(first|((with_reducible apply qae);(exact qbT rfl (by simp) rfl);(exact ho);rfl)|refine zQ ?_|refine zF hC ?_|refine zE ?_|fail)
  all_goals first|rfl|(exfalso;omega)
 rw[hab]at ho
 obtain⟨oa,ob⟩:=ok2 hab
 by_cases hord:b.x<a.x∨b.y<a.y
 ·have e:touchX l a b=(false,9):=by rw[touchX,if_neg (by omega),if_neg (by rw[hab];simp),if_pos hord]
  rw[e]
  refine zT mix Tryz.func205 Tryz.ntmps205 Tryz.results205 rfl rfl rfl ?_;simp only[qab,Nat.reduceAdd]
  repeat'(first|((with_reducible apply qae);(exact qbT rfl (by simp) rfl);(exact ho);rfl)|refine zQ ?_|refine zF hC ?_|(refine zC ?_ ?_<;>first|intro h|simp)|(refine zG ?_ ?_<;>first|intro h|simp)|refine zE ?_|fail)
  all_goals first|rfl|(exfalso;omega)
 have e:touchX l a b=(touchE l a b,0):=by rw[touchX,if_neg (by omega),if_neg (by rw[hab];simp),if_neg hord]
 rw[e]
 have h0:0<l.length:=by omega
 have hbo:=qBB oa ob
 have ins:=fun p hp=>qAe l h0 (by omega) hok p hp
 have i0:=ins a oa
 have i1:=ins ⟨b.x,a.y⟩ (hbo _ (by simp[qeI]))
 have i2:=ins b ob
 have i3:=ins ⟨a.x,b.y⟩ (hbo _ (by simp[qeI]))
 refine zT mix Tryz.func205 Tryz.ntmps205 Tryz.results205 rfl rfl rfl ?_;simp only[qab,Nat.reduceAdd]
 repeat'(first|((with_reducible apply qae);(exact qbT rfl (by simp) rfl);(exact ho);rfl)|refine zQ ?_|refine zF hC ?_|(refine zC ?_ ?_<;>first|intro h|simp)|(refine zG ?_ ?_<;>first|intro h|simp)|refine zE ?_|fail)
 all_goals try(exfalso;omega)
 refine qad 4 (fun i=>⟨[(50,.int .i64 i),(49,.agg (qth a b)),(4,.op 0 0 0),(5,.op 1 0 0),(9,.op 2 0 0),(0,.sl (l.map encPt))],[(0,⟨2,true,[encPt a]⟩),(1,⟨2,true,[encPt b]⟩),(2,⟨8,true,[qth a b]⟩)],32,110⟩) (fun i=>∀k,k<i→k<4→qiy l a b k=false)
  (qaa (nx:=32) (k:=0) (ns:=[]) (ks:=[50,49,4,5,9,0]) [(0,0),(32,1),(1216,2)] rfl (by simp) (by kernel_rfl)) (by omega) ?_
 intro i hi hC1
 have hc4:i=0∨i=1∨i=2∨i=3∨i=4:=by omega
 have hnext:∀{m:Nat} {p:Pt},(∀k,k<m→k<4→qiy l a b k=false)→qaf (qeI a b) m=p→¬0≤qu9 l p→∀k,k<m+1→k<4→qiy l a b k=false:=fun{m p} h e hp k hk hk4=>by
  rcases Nat.lt_succ_iff_lt_or_eq.1 hk with h'|rfl
  ·exact h k h' hk4
  ·rw[qiy,e];exact decide_eq_false hp
 have hyes:∀{m:Nat} {p:Pt},m<4→qaf (qeI a b) m=p→0≤qu9 l p→touchE l a b=true:=fun{m p} h e hp=>qpX h (by rw[qiy,e];exact decide_eq_true hp)
 rcases hc4 with rfl|rfl|rfl|rfl|rfl
 ·repeat'(first|refine zQ ?_|refine zF i0 ?_|(refine zC ?_ ?_<;>first|intro h|simp)|refine zE ?_|fail)
  ·rw[hyes (m:=0) (by omega) rfl (by assumption)];rfl
  ·exact⟨by omega,hnext hC1 rfl (by assumption),qaa (nx:=32) (k:=0) (ns:=[]) (ks:=[50,49,4,5,9,0]) [(0,0),(1,1),(2,2)] rfl (by simp) (by kernel_rfl)⟩
 ·repeat'(first|refine zQ ?_|refine zF i1 ?_|(refine zC ?_ ?_<;>first|intro h|simp)|refine zE ?_|fail)
  ·rw[hyes (m:=1) (by omega) rfl (by assumption)];rfl
  ·exact⟨by omega,hnext hC1 rfl (by assumption),qaa (nx:=32) (k:=0) (ns:=[]) (ks:=[50,49,4,5,9,0]) [(0,0),(1,1),(2,2)] rfl (by simp) (by kernel_rfl)⟩
 ·repeat'(first|refine zQ ?_|refine zF i2 ?_|(refine zC ?_ ?_<;>first|intro h|simp)|refine zE ?_|fail)
  ·rw[hyes (m:=2) (by omega) rfl (by assumption)];rfl
  ·exact⟨by omega,hnext hC1 rfl (by assumption),qaa (nx:=32) (k:=0) (ns:=[]) (ks:=[50,49,4,5,9,0]) [(0,0),(1,1),(2,2)] rfl (by simp) (by kernel_rfl)⟩
 ·repeat'(first|refine zQ ?_|refine zF i3 ?_|(refine zC ?_ ?_<;>first|intro h|simp)|refine zE ?_|fail)
  ·rw[hyes (m:=3) (by omega) rfl (by assumption)];rfl
  ·exact⟨by omega,hnext hC1 rfl (by assumption),qaa (nx:=32) (k:=0) (ns:=[]) (ks:=[50,49,4,5,9,0]) [(0,0),(1,1),(2,2)] rfl (by simp) (by kernel_rfl)⟩
 repeat'(first|refine zQ ?_|fail)
 refine qad l.length (fun i=>⟨[(60,.int .i64 i),(59,.int .i64 l.length),(58,.sl (l.map encPt)),(4,.op 0 0 0),(5,.op 1 0 0),(9,.op 2 0 0),(0,.sl (l.map encPt))],[(0,⟨2,true,[encPt a]⟩),(1,⟨2,true,[encPt b]⟩),(2,⟨8,true,[qth a b]⟩)],32,110⟩) (fun i=>∀j,j<i→qix a b (qaf l j)=false∧∀k,k<4→qb4 l a b j k=false)
  (qaa (nx:=32) (k:=0) (ns:=[]) (ks:=[60,59,58,4,5,9,0]) [(0,0),(1,1),(2,2)] rfl (by simp) (by kernel_rfl)) (by omega) ?_
 intro i hi hC
 by_cases h2:i<l.length
 rotate_left
 ·rw[qtj (fun k hk=>hC1 k hk hk) fun j hj=>hC j (by omega)]
  repeat'(first|refine zQ ?_|(refine zI ?_;intro hlt)|(refine zC ?_ ?_<;>first|intro h|simp)|(refine zG ?_ ?_<;>first|intro h|simp)|refine zE ?_|fail)
  all_goals first|(exfalso;omega)|rfl|trace_state
 have ec:=qdJ h2
 have o0:ptOK l[i]=true:=hok _ (List.getElem_mem h2)
 have o1:=hok _ (qbh h0 (i+1))
 have k1:Contract Tryz.prog 256 [.sl (l.map encPt),.int .i64 ((i:Int)+1)] (.ret (.agg (encPt (qaf l (i+1))))):=qik l h0 (by omega) (i+1)
 have hCi:∀j,j<i→qix a b (qaf l j)=false∧∀k,k<4→qb4 l a b j k=false:=hC
 have hIn:qix a b l[i]=true→touchE l a b=true:=fun h=>qti h2 (by rw[ec];exact h)
 have hEd:∀k,qb4 l a b i k=qf7 l[i] (qaf l (i+1)) (qaf (qeI a b) k) (qaf (qeI a b) (k+1)):=fun k=>by rw[qb4,ec]
 have m0:=qpx l[i] (qaf l (i+1)) a ⟨b.x,a.y⟩ o0 o1 oa (hbo _ (by simp[qeI]))
 have m1:=qpx l[i] (qaf l (i+1)) ⟨b.x,a.y⟩ b o0 o1 (hbo _ (by simp[qeI])) ob
 have m2:=qpx l[i] (qaf l (i+1)) b ⟨a.x,b.y⟩ o0 o1 ob (hbo _ (by simp[qeI]))
 have m3:=qpx l[i] (qaf l (i+1)) ⟨a.x,b.y⟩ a o0 o1 (hbo _ (by simp[qeI])) oa
 have hHit:∀k,k<4→qf7 l[i] (qaf l (i+1)) (qaf (qeI a b) k) (qaf (qeI a b) (k+1))=true→touchE l a b=true:=fun k hk h=>qpY h2 hk (by rw[hEd];exact h)
 generalize hd:qaf l (i+1)=d at*
 repeat'(first|refine zQ ?_|(refine zI ?_;intro hlt)|(refine zC ?_ ?_<;>first|intro h|simp)|(refine zG ?_ ?_<;>first|intro h|simp)|refine zE ?_|fail)
 all_goals first
  |(exfalso;omega)
  |(rw[hIn (decide_eq_true (by omega))];rfl)
  |skip
 all_goals
  have hnb:qix a b l[i]=false:=decide_eq_false (by omega)
  refine qad 4 (fun k=>⟨[(91,.int .i64 k),(13,.op 3 0 0),(12,.int .i64 i),(60,.int .i64 i),(59,.int .i64 l.length),(58,.sl (l.map encPt)),(4,.op 0 0 0),(5,.op 1 0 0),(9,.op 2 0 0),(0,.sl (l.map encPt))],[(0,⟨2,true,[encPt a]⟩),(1,⟨2,true,[encPt b]⟩),(2,⟨8,true,[qth a b]⟩),(3,⟨2,true,[encPt l[i]]⟩)],32,110⟩) (fun k=>∀k',k'<k→k'<4→qb4 l a b i k'=false)
   (qaa (nx:=32) (k:=0) (ns:=[]) (ks:=[91,13,12,60,59,58,4,5,9,0]) [(0,0),(1,1),(2,2),(160,3)] rfl (by simp) (by kernel_rfl)) (by omega) ?_
  intro k hk hC2
  have hcon:∀{m:Nat} {p q:Pt},(∀k',k'<m→k'<4→qb4 l a b i k'=false)→qaf (qeI a b) m=p→qaf (qeI a b) (m+1)=q→qf7 l[i] d p q=false→∀k',k'<m+1→k'<4→qb4 l a b i k'=false:=fun{m p q} h e1 e2 hm k' hk' hk4=>by
   rcases Nat.lt_succ_iff_lt_or_eq.1 hk' with h'|rfl
   ·exact h k' h' hk4
   ·rw[hEd,e1,e2];exact hm
  have hc4:k=0∨k=1∨k=2∨k=3∨k=4:=by omega
  rcases hc4 with rfl|rfl|rfl|rfl|rfl
  ·repeat'(first|refine zQ ?_|refine zF k1 ?_|refine zF m0 ?_|(refine zC ?_ ?_<;>first|intro h|simp)|refine zE ?_|fail)
   ·rw[hHit 0 (by omega) (by assumption)];rfl
   ·exact⟨by omega,hcon (m:=0) hC2 rfl rfl (by assumption),qaa (nx:=32) (k:=0) (ns:=[]) (ks:=[91,13,12,60,59,58,4,5,9,0]) [(0,0),(1,1),(2,2),(3,3)] rfl (by simp) (by kernel_rfl)⟩
  ·repeat'(first|refine zQ ?_|refine zF k1 ?_|refine zF m1 ?_|(refine zC ?_ ?_<;>first|intro h|simp)|refine zE ?_|fail)
   ·rw[hHit 1 (by omega) (by assumption)];rfl
   ·exact⟨by omega,hcon (m:=1) hC2 rfl rfl (by assumption),qaa (nx:=32) (k:=0) (ns:=[]) (ks:=[91,13,12,60,59,58,4,5,9,0]) [(0,0),(1,1),(2,2),(3,3)] rfl (by simp) (by kernel_rfl)⟩
  ·repeat'(first|refine zQ ?_|refine zF k1 ?_|refine zF m2 ?_|(refine zC ?_ ?_<;>first|intro h|simp)|refine zE ?_|fail)
   ·rw[hHit 2 (by omega) (by assumption)];rfl
   ·exact⟨by omega,hcon (m:=2) hC2 rfl rfl (by assumption),qaa (nx:=32) (k:=0) (ns:=[]) (ks:=[91,13,12,60,59,58,4,5,9,0]) [(0,0),(1,1),(2,2),(3,3)] rfl (by simp) (by kernel_rfl)⟩
  ·repeat'(first|refine zQ ?_|refine zF k1 ?_|refine zF m3 ?_|(refine zC ?_ ?_<;>first|intro h|simp)|refine zE ?_|fail)
   ·rw[hHit 3 (by omega) (by rw[qG4,show 3+1=4 from rfl,qFa];assumption)];rfl
   ·exact⟨by omega,hcon (m:=3) (p:=⟨a.x,b.y⟩) (q:=a) hC2 (qG4 a b) (qFa a b) (by assumption),qaa (nx:=32) (k:=0) (ns:=[]) (ks:=[91,13,12,60,59,58,4,5,9,0]) [(0,0),(1,1),(2,2),(3,3)] rfl (by simp) (by kernel_rfl)⟩
  ·repeat'(first|refine zQ ?_|fail)
   refine⟨h2,fun j hj=>?_,qaa (nx:=32) (k:=0) (ns:=[]) (ks:=[60,59,58,4,5,9,0]) [(0,0),(1,1),(2,2)] rfl (by simp) (by kernel_rfl)⟩
   rcases Nat.lt_succ_iff_lt_or_eq.1 hj with h'|rfl
   ·exact hCi j h'
   ·exact⟨by rw[ec];exact hnb,fun k' hk'=>hC2 k' hk' hk'⟩
end Go.Pv.Geo

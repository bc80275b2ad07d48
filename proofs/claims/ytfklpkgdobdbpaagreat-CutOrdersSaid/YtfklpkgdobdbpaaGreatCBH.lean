import Derived.Test.YtfklpkgdobdbpaaGreatCBB
import Derived.Test.YtfklpkgdobdbpaaGreatCBD
/- Part of the proofs over YtfklpkgdobdbpaaGreat: PH19, S71. -/
set_option linter.unusedVariables false
set_option linter.unusedSimpArgs false
set_option linter.unnecessarySimpa false
open Go Go.Proofs Go.Pv
set_option maxHeartbeats 8000000
set_option maxRecDepth 100000
set_option linter.unusedSimpArgs false
set_option linter.unusedVariables false
namespace Go.Pv.Geo
theorem c_rTouches(l:List Pt)(a b:Pt)(hz:polyE l=0)(oa:ptOK a=true)(ob:ptOK b=true):Contract Tryz.prog 138 [.sl (l.map encPt),.agg (encPt a),.agg (encPt b)] (.ret (.bool (touchE l a b))):=by
 obtain⟨⟨h3,h40⟩,hok,-⟩:=qxi hz
 have h0:0<l.length:=by omega
 have hbo:=qBB oa ob
 have ins:=fun p hp=>qxT l h0 (by omega) hok p hp
 have i0:=ins a oa
 have i1:=ins ⟨b.x,a.y⟩ (hbo _ (by simp[qeI]))
 have i2:=ins b ob
 have i3:=ins ⟨a.x,b.y⟩ (hbo _ (by simp[qeI]))
 refine zT mix Tryz.func138 Tryz.ntmps138 Tryz.results138 rfl rfl rfl ?_;simp only[qab,Nat.reduceAdd]
 repeat'(first|refine zQ ?_|fail)
 refine qad 4 (fun i=>⟨[(8,.int .i64 i),(7,.os 2 0 4),(4,.op 0 0 0),(5,.op 1 0 0),(0,.sl (l.map encPt))],[(0,⟨2,true,[encPt a]⟩),(1,⟨2,true,[encPt b]⟩),(2,⟨2,true,[encPt a,encPt ⟨b.x,a.y⟩,encPt b,encPt ⟨a.x,b.y⟩]⟩)],32,81⟩) (fun i=>∀k,k<i→k<4→qiy l a b k=false)
  (qaa (nx:=32) (k:=0) (ns:=[]) (ks:=[8,7,4,5,0]) [(0,0),(32,1),(480,2)] rfl (by simp) (by kernel_rfl)) (by omega) ?_
 intro i hi hC1
 have hc4:i=0∨i=1∨i=2∨i=3∨i=4:=by omega
 have hnext:∀{m:Nat} {p:Pt},(∀k,k<m→k<4→qiy l a b k=false)→qaf (qeI a b) m=p→¬0≤qu9 l p→∀k,k<m+1→k<4→qiy l a b k=false:=fun{m p} h e hp k hk hk4=>by
  rcases Nat.lt_succ_iff_lt_or_eq.1 hk with h'|rfl
  ·exact h k h' hk4
  ·rw[qiy,e];exact decide_eq_false hp
 have hyes:∀{m:Nat} {p:Pt},m<4→qaf (qeI a b) m=p→0≤qu9 l p→touchE l a b=true:=fun{m p} h e hp=>qpX h (by rw[qiy,e];exact decide_eq_true hp)
 rcases hc4 with rfl|rfl|rfl|rfl|rfl
 ·repeat'(first|refine zQ ?_|refine zF i0 ?_|(refine zC ?_ ?_<;>first|intro h|simp)|refine zE ?_|fail)
  ·rw[hyes (m:=0) (by omega) rfl (by assumption)]
  ·exact⟨by omega,hnext hC1 rfl (by assumption),qaa (nx:=32) (k:=0) (ns:=[]) (ks:=[8,7,4,5,0]) [(0,0),(1,1),(2,2)] rfl (by simp) (by kernel_rfl)⟩
 ·repeat'(first|refine zQ ?_|refine zF i1 ?_|(refine zC ?_ ?_<;>first|intro h|simp)|refine zE ?_|fail)
  ·rw[hyes (m:=1) (by omega) rfl (by assumption)]
  ·exact⟨by omega,hnext hC1 rfl (by assumption),qaa (nx:=32) (k:=0) (ns:=[]) (ks:=[8,7,4,5,0]) [(0,0),(1,1),(2,2)] rfl (by simp) (by kernel_rfl)⟩
 ·repeat'(first|refine zQ ?_|refine zF i2 ?_|(refine zC ?_ ?_<;>first|intro h|simp)|refine zE ?_|fail)
  ·rw[hyes (m:=2) (by omega) rfl (by assumption)]
  ·exact⟨by omega,hnext hC1 rfl (by assumption),qaa (nx:=32) (k:=0) (ns:=[]) (ks:=[8,7,4,5,0]) [(0,0),(1,1),(2,2)] rfl (by simp) (by kernel_rfl)⟩
 ·repeat'(first|refine zQ ?_|refine zF i3 ?_|(refine zC ?_ ?_<;>first|intro h|simp)|refine zE ?_|fail)
  ·rw[hyes (m:=3) (by omega) rfl (by assumption)]
  ·exact⟨by omega,hnext hC1 rfl (by assumption),qaa (nx:=32) (k:=0) (ns:=[]) (ks:=[8,7,4,5,0]) [(0,0),(1,1),(2,2)] rfl (by simp) (by kernel_rfl)⟩
 repeat'(first|refine zQ ?_|fail)
 refine qad l.length (fun i=>⟨[(9,.int .i64 i),(7,.os 2 0 4),(4,.op 0 0 0),(5,.op 1 0 0),(0,.sl (l.map encPt))],[(0,⟨2,true,[encPt a]⟩),(1,⟨2,true,[encPt b]⟩),(2,⟨2,true,[encPt a,encPt ⟨b.x,a.y⟩,encPt b,encPt ⟨a.x,b.y⟩]⟩)],32,81⟩) (fun i=>∀j,j<i→qix a b (qaf l j)=false∧∀k,k<4→qb4 l a b j k=false)
  (qaa (nx:=32) (k:=0) (ns:=[]) (ks:=[9,7,4,5,0]) [(0,0),(1,1),(2,2)] rfl (by simp) (by kernel_rfl)) (by omega) ?_
 intro i hi hC
 by_cases h2:i<l.length
 rotate_left
 ·rw[qtj (fun k hk=>hC1 k hk hk) fun j hj=>hC j (by omega)]
  repeat'(first|(with_reducible rfl)|refine zQ ?_|(refine zC ?_ ?_<;>first|intro h|simp)|refine zE ?_|fail)
  all_goals first|(exfalso;omega)|rfl|trace_state
 have o0:=hok _ (qbh h0 i)
 have o1:=hok _ (qbh h0 (i+1))
 have k0:=qcV l h0 (by omega) i
 have k1:Contract Tryz.prog 198 [.sl (l.map encPt),.int .i64 ((i:Int)+1)] (.ret (.agg (encPt (qaf l (i+1))))):=qcV l h0 (by omega) (i+1)
 have hCi:∀j,j<i→qix a b (qaf l j)=false∧∀k,k<4→qb4 l a b j k=false:=hC
 have hIn:qix a b (qaf l i)=true→touchE l a b=true:=fun h=>qti h2 h
 have hEd:∀k,qb4 l a b i k=qf7 (qaf l i) (qaf l (i+1)) (qaf (qeI a b) k) (qaf (qeI a b) (k+1)):=fun k=>rfl
 have m0:=qlk (qaf l i) (qaf l (i+1)) a ⟨b.x,a.y⟩ o0 o1 oa (hbo _ (by simp[qeI]))
 have m1:=qlk (qaf l i) (qaf l (i+1)) ⟨b.x,a.y⟩ b o0 o1 (hbo _ (by simp[qeI])) ob
 have m2:=qlk (qaf l i) (qaf l (i+1)) b ⟨a.x,b.y⟩ o0 o1 ob (hbo _ (by simp[qeI]))
 have m3:=qlk (qaf l i) (qaf l (i+1)) ⟨a.x,b.y⟩ a o0 o1 (hbo _ (by simp[qeI])) oa
 have hHit:∀k,k<4→qf7 (qaf l i) (qaf l (i+1)) (qaf (qeI a b) k) (qaf (qeI a b) (k+1))=true→touchE l a b=true:=fun k hk h=>qpY h2 hk h
 have rb:∀k:Nat,Contract Tryz.prog 198 [.sl ((qeI a b).map encPt),.int .i64 ((k:Int)+1)] (.ret (.agg (encPt (qaf (qeI a b) (k+1))))):=fun k=>qcV (qeI a b) (by simp[qeI]) (by simp[qeI]) (k+1)
 have r0:Contract Tryz.prog 198 [.sl ((qeI a b).map encPt),.int .i64 (((0:Nat):Int)+1)] (.ret (.agg (encPt ⟨b.x,a.y⟩))):=rb 0
 have r1:Contract Tryz.prog 198 [.sl ((qeI a b).map encPt),.int .i64 (((1:Nat):Int)+1)] (.ret (.agg (encPt b))):=rb 1
 have r2:Contract Tryz.prog 198 [.sl ((qeI a b).map encPt),.int .i64 (((2:Nat):Int)+1)] (.ret (.agg (encPt ⟨a.x,b.y⟩))):=rb 2
 have r3:Contract Tryz.prog 198 [.sl ((qeI a b).map encPt),.int .i64 (((3:Nat):Int)+1)] (.ret (.agg (encPt a))):=by
  have e:qaf (qeI a b) (3+1)=a:=qFa a b
  have:=rb 3
  rw[e]at this
  exact this
 generalize hcc:qaf l i=c at*
 generalize qaf l (i+1)=d at*
 repeat'(first|((with_reducible apply qae);rfl;(exact c_within _ _ _);rfl)|refine zQ ?_|refine zF k0 ?_|refine zF k1 ?_|(refine zC ?_ ?_<;>first|intro h|simp)|(refine zG ?_ ?_<;>first|intro h|simp)|refine zE ?_|fail)
 all_goals first
  |(exfalso;omega)
  |(rw[hIn (decide_eq_true (by omega))];done)
  |skip
 all_goals
  have hnb:qix a b c=false:=decide_eq_false (by omega)
  refine qad 4 (fun k=>⟨[(12,.int .i64 k),(10,.op 3 0 0),(11,.op 6 0 0),(9,.int .i64 i),(7,.os 2 0 4),(4,.op 0 0 0),(5,.op 1 0 0),(0,.sl (l.map encPt))],[(0,⟨2,true,[encPt a]⟩),(1,⟨2,true,[encPt b]⟩),(2,⟨2,true,[encPt a,encPt ⟨b.x,a.y⟩,encPt b,encPt ⟨a.x,b.y⟩]⟩),(3,⟨2,true,[encPt c]⟩),(6,⟨2,true,[encPt d]⟩)],32,81⟩) (fun k=>∀k',k'<k→k'<4→qb4 l a b i k'=false)
   (qaa (nx:=32) (k:=0) (ns:=[]) (ks:=[12,10,11,9,7,4,5,0]) [(0,0),(1,1),(2,2),(384,3),(416,6)] rfl (by simp) (by kernel_rfl)) (by omega) ?_
  intro k hk hC2
  have hcon:∀{m:Nat} {p q:Pt},(∀k',k'<m→k'<4→qb4 l a b i k'=false)→qaf (qeI a b) m=p→qaf (qeI a b) (m+1)=q→qf7 c d p q=false→∀k',k'<m+1→k'<4→qb4 l a b i k'=false:=fun{m p q} h e1 e2 hm k' hk' hk4=>by
   rcases Nat.lt_succ_iff_lt_or_eq.1 hk' with h'|rfl
   ·exact h k' h' hk4
   ·rw[hEd,e1,e2];exact hm
  have hc4:k=0∨k=1∨k=2∨k=3∨k=4:=by omega
  rcases hc4 with rfl|rfl|rfl|rfl|rfl
  ·repeat'(first|((with_reducible apply qbF);(exact qbT rfl rfl rfl);(exact r0);rfl;(exact zL rfl);rfl)|refine zQ ?_|refine zF m0 ?_|(refine zC ?_ ?_<;>first|intro h|simp)|refine zE ?_|fail)
   ·rw[hHit 0 (by omega) (by assumption)]
   ·exact⟨by omega,hcon (m:=0) hC2 rfl rfl (by assumption),qaa (nx:=32) (k:=0) (ns:=[]) (ks:=[12,10,11,9,7,4,5,0]) [(0,0),(1,1),(2,2),(3,3),(6,6)] rfl (by simp) (by kernel_rfl)⟩
  ·repeat'(first|((with_reducible apply qbF);(exact qbT rfl rfl rfl);(exact r1);rfl;(exact zL rfl);rfl)|refine zQ ?_|refine zF m1 ?_|(refine zC ?_ ?_<;>first|intro h|simp)|refine zE ?_|fail)
   ·rw[hHit 1 (by omega) (by assumption)]
   ·exact⟨by omega,hcon (m:=1) hC2 rfl rfl (by assumption),qaa (nx:=32) (k:=0) (ns:=[]) (ks:=[12,10,11,9,7,4,5,0]) [(0,0),(1,1),(2,2),(3,3),(6,6)] rfl (by simp) (by kernel_rfl)⟩
  ·repeat'(first|((with_reducible apply qbF);(exact qbT rfl rfl rfl);(exact r2);rfl;(exact zL rfl);rfl)|refine zQ ?_|refine zF m2 ?_|(refine zC ?_ ?_<;>first|intro h|simp)|refine zE ?_|fail)
   ·rw[hHit 2 (by omega) (by assumption)]
   ·exact⟨by omega,hcon (m:=2) hC2 rfl rfl (by assumption),qaa (nx:=32) (k:=0) (ns:=[]) (ks:=[12,10,11,9,7,4,5,0]) [(0,0),(1,1),(2,2),(3,3),(6,6)] rfl (by simp) (by kernel_rfl)⟩
  ·repeat'(first|((with_reducible apply qbF);(exact qbT rfl rfl rfl);(exact r3);rfl;(exact zL rfl);rfl)|refine zQ ?_|refine zF m3 ?_|(refine zC ?_ ?_<;>first|intro h|simp)|refine zE ?_|fail)
   ·rw[hHit 3 (by omega) (by rw[qG4,show 3+1=4 from rfl,qFa];assumption)]
   ·exact⟨by omega,hcon (m:=3) (p:=⟨a.x,b.y⟩) (q:=a) hC2 (qG4 a b) (qFa a b) (by assumption),qaa (nx:=32) (k:=0) (ns:=[]) (ks:=[12,10,11,9,7,4,5,0]) [(0,0),(1,1),(2,2),(3,3),(6,6)] rfl (by simp) (by kernel_rfl)⟩
  ·repeat'(first|refine zQ ?_|fail)
   refine⟨h2,fun j hj=>?_,qaa (nx:=32) (k:=0) (ns:=[]) (ks:=[9,7,4,5,0]) [(0,0),(1,1),(2,2)] rfl (by simp) (by kernel_rfl)⟩
   rcases Nat.lt_succ_iff_lt_or_eq.1 hj with h'|rfl
   ·exact hCi j h'
   ·exact⟨by rw[hcc];exact hnb,fun k' hk'=>hC2 k' hk' hk'⟩
end Go.Pv.Geo
namespace Go.Pv.Soil
theorem qBD{m:Grid}(h:OkGrid m){i:Nat}(hi:i<m.levels.length):Geo.ptOK (qkm m i)=true:=by
 have hc:=qdn h hi
 have hb:=h.bds
 have he:=h.ends
 have e1:=Int.mul_le_mul_of_nonneg_right (show(i:Int)%m.cols+1≤m.cols by omega) (show 0≤m.side by omega)
 have e2:=Int.mul_le_mul_of_nonneg_right (show(i:Int)/m.cols+1≤m.rows by omega) (show 0≤m.side by omega)
 rw[Int.add_mul,Int.one_mul]at e1 e2
 refine decide_eq_true ?_
 simp only[qkm,qar]
 omega
theorem qMd(q:Quay)(hq:qe8 q=0)(m:Grid)(hm:OkGrid m)(h0:qa2 m=0)(hl:m.levels.length≤1000000000):Contract Tryz.prog 208 [.agg (qct q),.agg (qag m)] (.ret (.tup [.agg (qmq m++[.fr 1 ((qmr q m m.levels.length m.levels.length).map qal)]),.int .i64 0])):=by
 have h1:=qKj q
 rw[hq]at h1
 have h2:=qMc m hl h0
 rw[qH3 q m]at h2
 have hF:qfm qal 1:=fun _=>⟨rfl,rfl⟩
 refine zT mix Tryz.func208 Tryz.ntmps208 Tryz.results208 rfl rfl rfl ?_;simp only[qab,Nat.reduceAdd]
 repeat'(first|refine zQ ?_|refine zF h1 ?_|fail)
 all_goals try(exfalso;omega)
 refine quL (f:=qal) (l:=qmr q m m.levels.length 0) (cs:=qmq m) (q:=5) (args':=[.agg (qag m)]) rfl h2 hF rfl rfl rfl rfl rfl rfl ?_
 repeat'(first|refine zQ ?_|fail)
 simp only[qol]
 refine qad m.levels.length (fun i=>⟨[(30,.int .i64 i),(29,.int .i64 m.levels.length),(28,.os 4 0 m.levels.length),(2,.op 0 0 0),(3,.op 1 0 0),(4,.op 2 0 0),(7,.op 3 0 0)],[(0,⟨7,true,[qct q]⟩),(1,⟨6,true,[qag m]⟩),(2,⟨6,false,[[.int .i64 0,.int .i64 0,.int .i64 0,.int .i64 0,.int .i64 0,.nilsl]]⟩),(3,⟨6,false,[qmq m++[.os 4 0 m.levels.length]]⟩),(4,⟨1,true,(qmr q m m.levels.length i).map qal⟩)],32,49⟩) (fun i=>True)
  (qaa (nx:=32) (k:=0) (ns:=[]) (ks:=[30,29,28,2,3,4,7]) [(0,0),(32,1),(64,2),(448,3),(325,4)] rfl (by simp) (by kernel_rfl)) trivial ?_
 intro i hi _
 by_cases hlt:i<m.levels.length
 ·have hle:=qol (q:=q) (m:=m) (n:=m.levels.length) (i:=i)
  have y1:Contract Tryz.prog 250 [.agg (qag m),.int .i64 i] (.ret (.agg (gP (qkm m i)))):=qG1 m hm i hlt h0
  have y2:=qL9 q hq (qkm m i) (qBD hm hlt)
  repeat'(first|refine zQ ?_|refine zF y1 ?_|refine zF y2 ?_|(refine zI ?_;intro hlt)|(refine zC ?_ ?_<;>first|intro h|simp)|fail)
  ·refine qaF (f:=qal) (l:=qmr q m m.levels.length i) (a:=(qgy q (qkm m i)).1) rfl rfl rfl (by omega) rfl rfl rfl rfl (Nat.le_refl _) rfl ?_
   rw[qDg (n:=m.levels.length) (by assumption)]
   repeat'(first|refine zQ ?_|fail)
   exact⟨by omega,trivial,qaa (nx:=32) (k:=0) (ns:=[]) (ks:=[30,29,28,2,3,4,7]) [(0,0),(1,1),(2,2),(3,3),(4,4)] rfl (by simp) (by kernel_rfl)⟩
  ·refine⟨by omega,trivial,?_⟩
   rw[qFd (n:=m.levels.length) (by assumption)]
   exact qaa (nx:=32) (k:=0) (ns:=[]) (ks:=[30,29,28,2,3,4,7]) [(0,0),(1,1),(2,2),(3,3),(4,4)] rfl (by simp) (by kernel_rfl)
  ·exfalso;omega
 ·have e:i=m.levels.length:=by omega
  subst e
  repeat'(first|refine zQ ?_|(refine zC ?_ ?_<;>first|intro h|simp)|fail)
  all_goals first
   |(exfalso;omega)
   |exact qbs (qso (cs:=qmq m) (len:=m.levels.length) rfl rfl (by simp[qol]) rfl rfl rfl)
   |trace_state
end Go.Pv.Soil

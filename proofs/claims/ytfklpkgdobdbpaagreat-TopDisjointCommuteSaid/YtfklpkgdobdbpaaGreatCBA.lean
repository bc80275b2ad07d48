import Derived.Test.YtfklpkgdobdbpaaGreatCAV
import Derived.Test.YtfklpkgdobdbpaaGreatCAW
import Derived.Test.YtfklpkgdobdbpaaGreatCAZ
/- Part of the proofs over YtfklpkgdobdbpaaGreat: N14, PH19. -/
set_option linter.unusedVariables false
set_option linter.unusedSimpArgs false
set_option linter.unnecessarySimpa false
open Go Go.Proofs Go.Pv
set_option maxHeartbeats 8000000
set_option maxRecDepth 100000
set_option linter.unusedSimpArgs false
set_option linter.unusedVariables false
namespace Go.Pv.Soil
def qqc:Outp:=⟨.empty,0,0⟩
def qgD(d:Dred)(n:ByteArray):Int:=qci (fun o=>decide (o.soil=n)) d.outs
def qcy(d:Dred)(n:ByteArray):Outp:=match d.outs[(qgD d n).toNat]? with
 |some o=>if 0≤qgD d n then o else qqc
 |none=>qqc
theorem qe1{d:Dred}{n:ByteArray}(h:0≤qgD d n):∃hk:(qgD d n).toNat<d.outs.length,qcy d n=d.outs[(qgD d n).toNat]:=by
 have hk:(qgD d n).toNat<d.outs.length:=qnM h
 refine⟨hk,?_⟩
 unfold qcy
 rw[List.getElem?_eq_getElem hk]
 exact if_pos h
theorem qrH{d:Dred}{n:ByteArray}(h:qgD d n<0):qcy d n=qqc:=by
 unfold qcy
 split
 ·rw[if_neg (by omega)]
 ·rfl
theorem qv0(o:Outp)(n:ByteArray):Contract Tryz.prog 252 [.agg (qbN o),.ptr [.str n]] (.ret (.bool (decide (o.soil=n)))):=by
 refine zT mix Tryz.func252 Tryz.ntmps252 Tryz.results252 rfl rfl rfl ?_;simp only[qac,Nat.reduceAdd]
 repeat'(first|(with_reducible rfl)|refine zQ ?_|((with_reducible apply qaG);rfl;rfl)|refine zE ?_|fail)
theorem qrI(d:Dred)(h:d.outs.length<1000000000000)(n:ByteArray):Contract Tryz.prog 192 [.agg (encDred d),.str n] (.ret (.tup [.agg (qbN (qcy d n)),.bool (decide (0≤qgD d n))])):=by
 have h1:=qAK d.outs h 252 [.ptr [.str n]] (fun _ _=>rfl) rfl (fun o=>decide (o.soil=n)) fun o _=>qv0 o n
 by_cases h0:0≤qgD d n
 ·obtain⟨hk,e⟩:=qe1 h0
  rw[decide_eq_true h0,e]
  obtain⟨k,ek⟩:=Int.eq_ofNat_of_zero_le h0
  have hkk:(qgD d n).toNat=k:=by omega
  have h1':Contract Tryz.prog 251 [.sl (d.outs.map qbN),.clo (.func 252) [] [.ptr [.str n]]] (.ret (.int .i64 (k:Int))):=by rw[←ek];exact h1
  simp only[hkk]at*
  refine zT mix Tryz.func192 Tryz.ntmps192 Tryz.results192 rfl rfl rfl ?_;simp only[qac,Nat.reduceAdd]
  repeat'(first|refine zQ ?_|refine zF h1' ?_|(refine zI ?_;intro hlt)|fail)
  all_goals first
   |(exfalso;omega)
   |exact qcs rfl rfl rfl rfl
   |trace_state
 ·rw[decide_eq_false h0,qrH (by omega)]
  have h1':Contract Tryz.prog 251 [.sl (d.outs.map qbN),.clo (.func 252) [] [.ptr [.str n]]] (.ret (.int .i64 (qgD d n))):=h1
  generalize qgD d n=q at*
  refine zT mix Tryz.func192 Tryz.ntmps192 Tryz.results192 rfl rfl rfl ?_;simp only[qac,Nat.reduceAdd]
  repeat'(first|refine zQ ?_|refine zF h1' ?_|(refine zI ?_;intro hlt)|(refine zC ?_ ?_<;>first|intro h|simp)|fail)
  all_goals first
   |(exfalso;omega)
   |exact qcs rfl rfl rfl rfl
   |trace_state
theorem qrJ(s:Site)(h:s.dreds.length<1000000000000)(c:Cut)(hd:0≤qcT s c.dredger)(ho:(dredOf s c.dredger).outs.length<1000000000000)(n:ByteArray):Contract Tryz.prog 124 [.agg (encSite s),.agg (encCut c),.str n] (.ret (.tup [.agg (qbN (qcy (dredOf s c.dredger) n)),.bool (decide (0≤qgD (dredOf s c.dredger) n))])):=by
 have h1:=qb4 s h c.dredger
 obtain⟨hk,e⟩:=qcc hd
 obtain⟨k,ek⟩:=Int.eq_ofNat_of_zero_le hd
 have hkk:(qcT s c.dredger).toNat=k:=by omega
 rw[ek]at h1
 rw[e]at ho ⊢
 simp only[hkk]at*
 refine zT mix Tryz.func124 Tryz.ntmps124 Tryz.results124 rfl rfl rfl ?_;simp only[qac,Nat.reduceAdd]
 repeat'(first|refine zQ ?_|refine zF h1 ?_|(refine zI ?_;intro hlt)|fail)
 refine qaf s.dreds[k].outs.length (fun i=>⟨[(9,.int .i64 i),(8,.sl (s.dreds[k].outs.map qbN)),(6,.op 1 0 0),(2,.str n)],[(1,⟨3,true,[[.str .empty,.int .i64 0,.int .i64 0]]⟩)],64,37⟩) (fun i=>∀j (hj:j<i) (hj':j<s.dreds[k].outs.length),decide (s.dreds[k].outs[j].soil=n)=false) (qaa (nx:=64) (k:=0) (ns:=[]) (ks:=[9,8,6,2]) [(64,1)] rfl (by simp) (by kernel_rfl)) (by omega) ?_
 intro i hi hC
 by_cases hL:i<s.dreds[k].outs.length
 ·by_cases hm:s.dreds[k].outs[i].soil=n
  ·have e1:qgD s.dreds[k] n=i:=qaY hL (decide_eq_true hm) fun j hj=>hC j hj (by omega)
   obtain⟨h2,e2⟩:=qe1 (d:=s.dreds[k]) (n:=n) (by omega)
   have e3:qcy s.dreds[k] n=s.dreds[k].outs[i]:=by
    have e4:(qgD s.dreds[k] n).toNat=i:=by omega
    rw[e2]
    simp only[e4]
   rw[decide_eq_true (show 0≤qgD s.dreds[k] n by omega),e3]
   repeat'(first|refine zQ ?_|(refine zI ?_;intro hlt)|(refine zC ?_ ?_<;>first|intro h|simp)|((with_reducible apply qaG);rfl;rfl)|fail)
   all_goals try simp only[Int.toNat_natCast]at*
   all_goals first
    |exact absurd hL (by omega)
    |exact absurd hm (by assumption)
    |exact qcs rfl rfl rfl rfl
    |trace_state
  ·repeat'(first|refine zQ ?_|(refine zI ?_;intro hlt)|(refine zC ?_ ?_<;>first|intro h|simp)|((with_reducible apply qaG);rfl;rfl)|fail)
   all_goals try simp only[Int.toNat_natCast]at*
   all_goals first
    |exact absurd hL (by omega)
    |exact absurd (by assumption) hm
    |(refine⟨by omega,fun j hj hj'=>?_,qaa (nx:=64) (k:=0) (ns:=[]) (ks:=[9,8,6,2]) [(1,1)] rfl (by simp) (by kernel_rfl)⟩
      rcases Nat.lt_succ_iff_lt_or_eq.1 hj with h'|rfl
      ·exact hC j h' hj'
      ·exact decide_eq_false hm)
    |trace_state
 ·have e1:qgD s.dreds[k] n= -1:=qa7 fun x hx=>by
   obtain⟨j,hj,rfl⟩:=List.mem_iff_getElem.1 hx
   exact hC j (by omega) hj
  rw[qrH (by omega),decide_eq_false (by omega)]
  repeat'(first|refine zQ ?_|(refine zI ?_;intro hlt)|(refine zC ?_ ?_<;>first|intro h|simp)|((with_reducible apply qaG);rfl;rfl)|fail)
  all_goals first
   |exact absurd hL (by omega)
   |exact qcs rfl rfl rfl rfl
   |trace_state
theorem qJR(a b:Int)(hb:0<b)(ha:0≤a∧a+b≤9223372036854775807):Contract Tryz.prog 193 [.int .i64 a,.int .i64 b] (.ret (.int .i64 ((a+b-1)/b))):=by
 refine zT mix Tryz.func193 Tryz.ntmps193 Tryz.results193 rfl rfl rfl ?_;simp only[qac,Nat.reduceAdd]
 repeat'(first|(with_reducible rfl)|refine zQ ?_|refine zE ?_|fail)
 all_goals first|rfl|trace_state
end Go.Pv.Soil
namespace Go.Pv.Geo
theorem c_rTouches(l:List Pt)(a b:Pt)(hz:polyE l=0)(oa:ptOK a=true)(ob:ptOK b=true):Contract Tryz.prog 138 [.sl (l.map encPt),.agg (encPt a),.agg (encPt b)] (.ret (.bool (touchE l a b))):=by
 obtain⟨⟨h3,h40⟩,hok,-⟩:=qvo hz
 have h0:0<l.length:=by omega
 have hbo:=qzw oa ob
 have ins:=fun p hp=>qv4 l h0 (by omega) hok p hp
 have i0:=ins a oa
 have i1:=ins ⟨b.x,a.y⟩ (hbo _ (by simp[qeq]))
 have i2:=ins b ob
 have i3:=ins ⟨a.x,b.y⟩ (hbo _ (by simp[qeq]))
 refine zT mix Tryz.func138 Tryz.ntmps138 Tryz.results138 rfl rfl rfl ?_;simp only[qac,Nat.reduceAdd]
 repeat'(first|refine zQ ?_|fail)
 refine qaf 4 (fun i=>⟨[(8,.int .i64 i),(7,.os 2 0 4),(4,.op 0 0 0),(5,.op 1 0 0),(0,.sl (l.map encPt))],[(0,⟨2,true,[encPt a]⟩),(1,⟨2,true,[encPt b]⟩),(2,⟨2,true,[encPt a,encPt ⟨b.x,a.y⟩,encPt b,encPt ⟨a.x,b.y⟩]⟩)],32,81⟩) (fun i=>∀k,k<i→k<4→qh5 l a b k=false)
  (qaa (nx:=32) (k:=0) (ns:=[]) (ks:=[8,7,4,5,0]) [(0,0),(32,1),(480,2)] rfl (by simp) (by kernel_rfl)) (by omega) ?_
 intro i hi hC1
 have hc4:i=0∨i=1∨i=2∨i=3∨i=4:=by omega
 have hnext:∀{m:Nat} {p:Pt},(∀k,k<m→k<4→qh5 l a b k=false)→qae (qeq a b) m=p→¬0≤qtm l p→∀k,k<m+1→k<4→qh5 l a b k=false:=fun{m p} h e hp k hk hk4=>by
  rcases Nat.lt_succ_iff_lt_or_eq.1 hk with h'|rfl
  ·exact h k h' hk4
  ·rw[qh5,e];exact decide_eq_false hp
 have hyes:∀{m:Nat} {p:Pt},m<4→qae (qeq a b) m=p→0≤qtm l p→touchE l a b=true:=fun{m p} h e hp=>qoS h (by rw[qh5,e];exact decide_eq_true hp)
 rcases hc4 with rfl|rfl|rfl|rfl|rfl
 ·repeat'(first|refine zQ ?_|refine zF i0 ?_|(refine zC ?_ ?_<;>first|intro h|simp)|refine zE ?_|fail)
  ·rw[hyes (m:=0) (by omega) rfl (by assumption)]
  ·exact⟨by omega,hnext hC1 rfl (by assumption),qaa (nx:=32) (k:=0) (ns:=[]) (ks:=[8,7,4,5,0]) [(0,0),(1,1),(2,2)] rfl (by simp) (by kernel_rfl)⟩
 ·repeat'(first|refine zQ ?_|refine zF i1 ?_|(refine zC ?_ ?_<;>first|intro h|simp)|refine zE ?_|fail)
  ·rw[hyes (m:=1) (by omega) rfl (by assumption)]
  ·exact⟨by omega,hnext hC1 rfl (by assumption),qaa (nx:=32) (k:=0) (ns:=[]) (ks:=[8,7,4,5,0]) [(0,0),(1,1),(2,2)] rfl (by simp) (by kernel_rfl)⟩
 ·repeat'(first|refine zQ ?_|refine zF i2 ?_|(refine zC ?_ ?_<;>first|intro h|simp)|refine zE ?_|fail)
  ·rw[hyes (m:=2) (by omega) rfl (by assumption)]
  ·exact⟨by omega,hnext hC1 rfl (by assumption),qaa (nx:=32) (k:=0) (ns:=[]) (ks:=[8,7,4,5,0]) [(0,0),(1,1),(2,2)] rfl (by simp) (by kernel_rfl)⟩
 ·repeat'(first|refine zQ ?_|refine zF i3 ?_|(refine zC ?_ ?_<;>first|intro h|simp)|refine zE ?_|fail)
  ·rw[hyes (m:=3) (by omega) rfl (by assumption)]
  ·exact⟨by omega,hnext hC1 rfl (by assumption),qaa (nx:=32) (k:=0) (ns:=[]) (ks:=[8,7,4,5,0]) [(0,0),(1,1),(2,2)] rfl (by simp) (by kernel_rfl)⟩
 repeat'(first|refine zQ ?_|fail)
 refine qaf l.length (fun i=>⟨[(9,.int .i64 i),(7,.os 2 0 4),(4,.op 0 0 0),(5,.op 1 0 0),(0,.sl (l.map encPt))],[(0,⟨2,true,[encPt a]⟩),(1,⟨2,true,[encPt b]⟩),(2,⟨2,true,[encPt a,encPt ⟨b.x,a.y⟩,encPt b,encPt ⟨a.x,b.y⟩]⟩)],32,81⟩) (fun i=>∀j,j<i→qh4 a b (qae l j)=false∧∀k,k<4→qbO l a b j k=false)
  (qaa (nx:=32) (k:=0) (ns:=[]) (ks:=[9,7,4,5,0]) [(0,0),(1,1),(2,2)] rfl (by simp) (by kernel_rfl)) (by omega) ?_
 intro i hi hC
 by_cases h2:i<l.length
 rotate_left
 ·rw[qrQ (fun k hk=>hC1 k hk hk) fun j hj=>hC j (by omega)]
  repeat'(first|(with_reducible rfl)|refine zQ ?_|(refine zC ?_ ?_<;>first|intro h|simp)|refine zE ?_|fail)
  all_goals first|(exfalso;omega)|rfl|trace_state
 have o0:=hok _ (qa4 h0 i)
 have o1:=hok _ (qa4 h0 (i+1))
 have k0:=qcF l h0 (by omega) i
 have k1:Contract Tryz.prog 198 [.sl (l.map encPt),.int .i64 ((i:Int)+1)] (.ret (.agg (encPt (qae l (i+1))))):=qcF l h0 (by omega) (i+1)
 have hCi:∀j,j<i→qh4 a b (qae l j)=false∧∀k,k<4→qbO l a b j k=false:=hC
 have hIn:qh4 a b (qae l i)=true→touchE l a b=true:=fun h=>qrP h2 h
 have hEd:∀k,qbO l a b i k=qfB (qae l i) (qae l (i+1)) (qae (qeq a b) k) (qae (qeq a b) (k+1)):=fun k=>rfl
 have m0:=qkA (qae l i) (qae l (i+1)) a ⟨b.x,a.y⟩ o0 o1 oa (hbo _ (by simp[qeq]))
 have m1:=qkA (qae l i) (qae l (i+1)) ⟨b.x,a.y⟩ b o0 o1 (hbo _ (by simp[qeq])) ob
 have m2:=qkA (qae l i) (qae l (i+1)) b ⟨a.x,b.y⟩ o0 o1 ob (hbo _ (by simp[qeq]))
 have m3:=qkA (qae l i) (qae l (i+1)) ⟨a.x,b.y⟩ a o0 o1 (hbo _ (by simp[qeq])) oa
 have hHit:∀k,k<4→qfB (qae l i) (qae l (i+1)) (qae (qeq a b) k) (qae (qeq a b) (k+1))=true→touchE l a b=true:=fun k hk h=>qoT h2 hk h
 have rb:∀k:Nat,Contract Tryz.prog 198 [.sl ((qeq a b).map encPt),.int .i64 ((k:Int)+1)] (.ret (.agg (encPt (qae (qeq a b) (k+1))))):=fun k=>qcF (qeq a b) (by simp[qeq]) (by simp[qeq]) (k+1)
 have r0:Contract Tryz.prog 198 [.sl ((qeq a b).map encPt),.int .i64 (((0:Nat):Int)+1)] (.ret (.agg (encPt ⟨b.x,a.y⟩))):=rb 0
 have r1:Contract Tryz.prog 198 [.sl ((qeq a b).map encPt),.int .i64 (((1:Nat):Int)+1)] (.ret (.agg (encPt b))):=rb 1
 have r2:Contract Tryz.prog 198 [.sl ((qeq a b).map encPt),.int .i64 (((2:Nat):Int)+1)] (.ret (.agg (encPt ⟨a.x,b.y⟩))):=rb 2
 have r3:Contract Tryz.prog 198 [.sl ((qeq a b).map encPt),.int .i64 (((3:Nat):Int)+1)] (.ret (.agg (encPt a))):=by
  have e:qae (qeq a b) (3+1)=a:=qC2 a b
  have:=rb 3
  rw[e]at this
  exact this
 generalize hcc:qae l i=c at*
 generalize qae l (i+1)=d at*
 repeat'(first|((with_reducible apply qad);rfl;(exact c_within _ _ _);rfl)|refine zQ ?_|refine zF k0 ?_|refine zF k1 ?_|(refine zC ?_ ?_<;>first|intro h|simp)|(refine zG ?_ ?_<;>first|intro h|simp)|refine zE ?_|fail)
 all_goals first
  |(exfalso;omega)
  |(rw[hIn (decide_eq_true (by omega))];done)
  |skip
 all_goals
  have hnb:qh4 a b c=false:=decide_eq_false (by omega)
  refine qaf 4 (fun k=>⟨[(12,.int .i64 k),(10,.op 3 0 0),(11,.op 6 0 0),(9,.int .i64 i),(7,.os 2 0 4),(4,.op 0 0 0),(5,.op 1 0 0),(0,.sl (l.map encPt))],[(0,⟨2,true,[encPt a]⟩),(1,⟨2,true,[encPt b]⟩),(2,⟨2,true,[encPt a,encPt ⟨b.x,a.y⟩,encPt b,encPt ⟨a.x,b.y⟩]⟩),(3,⟨2,true,[encPt c]⟩),(6,⟨2,true,[encPt d]⟩)],32,81⟩) (fun k=>∀k',k'<k→k'<4→qbO l a b i k'=false)
   (qaa (nx:=32) (k:=0) (ns:=[]) (ks:=[12,10,11,9,7,4,5,0]) [(0,0),(1,1),(2,2),(384,3),(416,6)] rfl (by simp) (by kernel_rfl)) (by omega) ?_
  intro k hk hC2
  have hcon:∀{m:Nat} {p q:Pt},(∀k',k'<m→k'<4→qbO l a b i k'=false)→qae (qeq a b) m=p→qae (qeq a b) (m+1)=q→qfB c d p q=false→∀k',k'<m+1→k'<4→qbO l a b i k'=false:=fun{m p q} h e1 e2 hm k' hk' hk4=>by
   rcases Nat.lt_succ_iff_lt_or_eq.1 hk' with h'|rfl
   ·exact h k' h' hk4
   ·rw[hEd,e1,e2];exact hm
  have hc4:k=0∨k=1∨k=2∨k=3∨k=4:=by omega
  rcases hc4 with rfl|rfl|rfl|rfl|rfl
  ·repeat'(first|((with_reducible apply qb2);(exact qbD rfl rfl rfl);(exact r0);rfl;(exact zL rfl);rfl)|refine zQ ?_|refine zF m0 ?_|(refine zC ?_ ?_<;>first|intro h|simp)|refine zE ?_|fail)
   ·rw[hHit 0 (by omega) (by assumption)]
   ·exact⟨by omega,hcon (m:=0) hC2 rfl rfl (by assumption),qaa (nx:=32) (k:=0) (ns:=[]) (ks:=[12,10,11,9,7,4,5,0]) [(0,0),(1,1),(2,2),(3,3),(6,6)] rfl (by simp) (by kernel_rfl)⟩
  ·repeat'(first|((with_reducible apply qb2);(exact qbD rfl rfl rfl);(exact r1);rfl;(exact zL rfl);rfl)|refine zQ ?_|refine zF m1 ?_|(refine zC ?_ ?_<;>first|intro h|simp)|refine zE ?_|fail)
   ·rw[hHit 1 (by omega) (by assumption)]
   ·exact⟨by omega,hcon (m:=1) hC2 rfl rfl (by assumption),qaa (nx:=32) (k:=0) (ns:=[]) (ks:=[12,10,11,9,7,4,5,0]) [(0,0),(1,1),(2,2),(3,3),(6,6)] rfl (by simp) (by kernel_rfl)⟩
  ·repeat'(first|((with_reducible apply qb2);(exact qbD rfl rfl rfl);(exact r2);rfl;(exact zL rfl);rfl)|refine zQ ?_|refine zF m2 ?_|(refine zC ?_ ?_<;>first|intro h|simp)|refine zE ?_|fail)
   ·rw[hHit 2 (by omega) (by assumption)]
   ·exact⟨by omega,hcon (m:=2) hC2 rfl rfl (by assumption),qaa (nx:=32) (k:=0) (ns:=[]) (ks:=[12,10,11,9,7,4,5,0]) [(0,0),(1,1),(2,2),(3,3),(6,6)] rfl (by simp) (by kernel_rfl)⟩
  ·repeat'(first|((with_reducible apply qb2);(exact qbD rfl rfl rfl);(exact r3);rfl;(exact zL rfl);rfl)|refine zQ ?_|refine zF m3 ?_|(refine zC ?_ ?_<;>first|intro h|simp)|refine zE ?_|fail)
   ·rw[hHit 3 (by omega) (by rw[qES,show 3+1=4 from rfl,qC2];assumption)]
   ·exact⟨by omega,hcon (m:=3) (p:=⟨a.x,b.y⟩) (q:=a) hC2 (qES a b) (qC2 a b) (by assumption),qaa (nx:=32) (k:=0) (ns:=[]) (ks:=[12,10,11,9,7,4,5,0]) [(0,0),(1,1),(2,2),(3,3),(6,6)] rfl (by simp) (by kernel_rfl)⟩
  ·repeat'(first|refine zQ ?_|fail)
   refine⟨h2,fun j hj=>?_,qaa (nx:=32) (k:=0) (ns:=[]) (ks:=[9,7,4,5,0]) [(0,0),(1,1),(2,2)] rfl (by simp) (by kernel_rfl)⟩
   rcases Nat.lt_succ_iff_lt_or_eq.1 hj with h'|rfl
   ·exact hCi j h'
   ·exact⟨by rw[hcc];exact hnb,fun k' hk'=>hC2 k' hk' hk'⟩
end Go.Pv.Geo

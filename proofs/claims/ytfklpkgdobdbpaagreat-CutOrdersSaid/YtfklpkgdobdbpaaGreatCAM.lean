import Derived.Test.YtfklpkgdobdbpaaGreatCAG
/- Part of the proofs over YtfklpkgdobdbpaaGreat: PH10. -/
set_option linter.unusedVariables false
set_option linter.unusedSimpArgs false
set_option linter.unnecessarySimpa false
open Go Go.Proofs Go.Pv
set_option maxHeartbeats 8000000
set_option maxRecDepth 100000
set_option linter.unusedSimpArgs false
set_option linter.unusedVariables false
namespace Go.Pv.Geo
theorem qxc:Tryz.prog.cellsOf 108=2:=by kernel_rfl
def qaf(l:List Pt)(i:Nat):Pt:=l.getD (i%l.length) ⟨0,0⟩
theorem qdI{l:List Pt}(h:0<l.length)(i:Nat):qaf l i=l[i%l.length]'(Nat.mod_lt _ h):=by
 simp[qaf,List.getD_eq_getElem?_getD,Nat.mod_lt _ h]
theorem qbh{l:List Pt}(h:0<l.length)(i:Nat):qaf l i∈l:=by
 rw[qdI h];exact List.getElem_mem _
theorem qdJ{l:List Pt}{i:Nat}(h:i<l.length):qaf l i=l[i]:=by
 rw[qdI (by omega)];simp only[Nat.mod_eq_of_lt h]
theorem qik(l:List Pt)(h0:0<l.length)(hl:l.length<1000000000000)(i:Nat):Contract Tryz.prog 256 [.sl (l.map encPt),.int .i64 i] (.ret (.agg (encPt (qaf l i)))):=by
 have hm:=Nat.mod_lt i h0
 have e:((i:Int)%(l.length:Int))=((i%l.length:Nat):Int):=by simp
 have hlt':0≤(i:Int)%(l.length:Int)∧(i:Int)%(l.length:Int)<l.length:=by rw[e];omega
 have e2:((i:Int)%(l.length:Int)).toNat=i%l.length:=by rw[e];rfl
 rw[qdI h0]
 refine zT mix Tryz.func256 Tryz.ntmps256 Tryz.results256 rfl rfl rfl ?_;simp only[qab,Nat.reduceAdd]
 repeat'(first|refine zQ ?_|(refine zI ?_;intro hlt)|refine zE ?_|fail)
 all_goals (rw[qxc];simp only[e2];rfl)
theorem qcV(l:List Pt)(h0:0<l.length)(hl:l.length<1000000000000)(i:Nat):Contract Tryz.prog 198 [.sl (l.map encPt),.int .i64 i] (.ret (.agg (encPt (qaf l i)))):=by
 have hm:=Nat.mod_lt i h0
 have e:((i:Int)%(l.length:Int))=((i%l.length:Nat):Int):=by simp
 have hlt':0≤(i:Int)%(l.length:Int)∧(i:Int)%(l.length:Int)<l.length:=by rw[e];omega
 have e2:((i:Int)%(l.length:Int)).toNat=i%l.length:=by rw[e];rfl
 rw[qdI h0]
 refine zT mix Tryz.func198 Tryz.ntmps198 Tryz.results198 rfl rfl rfl ?_;simp only[qab,Nat.reduceAdd]
 repeat'(first|refine zQ ?_|(refine zI ?_;intro hlt)|refine zE ?_|fail)
 all_goals (rw[qxc];simp only[e2];rfl)
def qBp(a b:Pt):Bool:=decide (a.x=b.x)&&(decide (a.y=b.y)&&true)
theorem qil{a b:Pt}:qBp a b=true↔a=b:=by
 cases a;cases b;simp[qBp]
def qdo(l:List Pt)(i:Nat):Bool:=qBp (qaf l i) (qaf l (i+1))||onE (qaf l i) (qaf l (i+1)) (qaf l (i+2))||onE (qaf l (i+1)) (qaf l (i+2)) (qaf l i)
def qc9(l:List Pt)(i k:Nat):Bool:=decide ((k+1)%l.length≠i)&&qf7 (qaf l i) (qaf l (i+1)) (qaf l k) (qaf l (k+1))
def qdp(l:List Pt):Bool:=(List.range l.length).all fun i=> !qdo l i&&(List.range l.length).all fun k=> !(decide (i+2≤k)&&qc9 l i k)
theorem qfP{l:List Pt}{i:Nat}(hi:i<l.length)(h:qdo l i=true):qdp l=false:=by
 rw[qdp,List.all_eq_false]
 exact⟨i,List.mem_range.2 hi,by simp[h]⟩
theorem qhD{l:List Pt}{i k:Nat}(hi:i<l.length)(hk:k<l.length)(hik:i+2≤k)(h:qc9 l i k=true):qdp l=false:=by
 rw[qdp,List.all_eq_false]
 refine⟨i,List.mem_range.2 hi,?_⟩
 have:((List.range l.length).all fun k=> !(decide (i+2≤k)&&qc9 l i k))=false:=by
  rw[List.all_eq_false]
  exact⟨k,List.mem_range.2 hk,by simp[h,hik]⟩
 rw[this,Bool.and_false];simp
theorem qm9{l:List Pt}(h1:∀i,i<l.length→qdo l i=false)(h2:∀i,i<l.length→∀k,k<l.length→i+2≤k→qc9 l i k=false):qdp l=true:=by
 rw[qdp,List.all_eq_true]
 intro i hi
 rw[h1 i (List.mem_range.1 hi),Bool.not_false,Bool.true_and,List.all_eq_true]
 intro k hk
 by_cases hik:i+2≤k
 ·rw[h2 i (List.mem_range.1 hi) k (List.mem_range.1 hk) hik,Bool.and_false];rfl
 ·simp[hik]
theorem qzS(l:List Pt)(h3:3≤l.length)(hl:l.length<1000000000)(hok:∀q∈l,ptOK q=true):Contract Tryz.prog 271 [.sl (l.map encPt)] (.ret (.bool (qdp l))):=by
 refine zT mix Tryz.func271 Tryz.ntmps271 Tryz.results271 rfl rfl rfl ?_;simp only[qab,Nat.reduceAdd]
 repeat'(first|refine zQ ?_|fail)
 refine qad l.length (fun i=>⟨[(12,.int .i64 i),(11,.int .i64 l.length),(3,.int .i64 l.length),(0,.sl (l.map encPt))],[],0,69⟩) (fun i=>∀j,j<i→qdo l j=false∧∀k,k<l.length→j+2≤k→qc9 l j k=false)
  (qaa (nx:=0) (k:=0) (ns:=[]) (ks:=[12,11,3,0]) [] rfl (by simp) (by kernel_rfl)) (by omega) ?_
 intro i hi hC
 by_cases h2:i<l.length
 ·have h0:0<l.length:=by omega
  have ec:=qdJ h2
  have o0:ptOK l[i]=true:=hok _ (List.getElem_mem h2)
  have o1:=hok _ (qbh h0 (i+1))
  have o2:=hok _ (qbh h0 (i+2))
  have k1:Contract Tryz.prog 256 [.sl (l.map encPt),.int .i64 ((i:Int)+1)] (.ret (.agg (encPt (qaf l (i+1))))):=qik l h0 (by omega) (i+1)
  have k2:Contract Tryz.prog 256 [.sl (l.map encPt),.int .i64 ((i:Int)+2)] (.ret (.agg (encPt (qaf l (i+2))))):=qik l h0 (by omega) (i+2)
  have n1:=qCG l[i] (qaf l (i+1)) (qaf l (i+2)) o0 o1 o2
  have n2:=qCG (qaf l (i+1)) (qaf l (i+2)) l[i] o1 o2 o0
  have hbad:qdo l i=(qBp l[i] (qaf l (i+1))||onE l[i] (qaf l (i+1)) (qaf l (i+2))||onE (qaf l (i+1)) (qaf l (i+2)) l[i]):=by rw[qdo,ec]
  have hst:=fun h=>qfP (l:=l) h2 h
  rw[hbad]at hst
  generalize hb:qaf l (i+1)=b at*
  generalize hc:qaf l (i+2)=c at*
  have hCi:∀j,j<i→qdo l j=false∧∀k,k<l.length→j+2≤k→qc9 l j k=false:=hC
  repeat'(first|refine zQ ?_|refine zF k1 ?_|refine zF k2 ?_|refine zF n1 ?_|refine zF n2 ?_|(refine zI ?_;intro hlt)|(refine zC ?_ ?_<;>first|intro h|simp)|(refine zG ?_ ?_<;>first|intro h|simp)|refine zE ?_|fail)
  all_goals try(exfalso;omega)
  ·exact(hst (by simp[*])).symm
  ·have hb0:qdo l i=false:=by
    have e1:qBp l[i] b=false:= ‹(decide (l[i].x=b.x)&&(decide (l[i].y=b.y)&&true))=false›
    rw[hbad];simp[*]
   refine qad l.length (fun j=>⟨[(8,.int .i64 ((i+2+j:Nat):Int)),(12,.int .i64 i),(11,.int .i64 l.length),(4,.int .i64 i),(3,.int .i64 l.length),(5,.op 0 0 0),(6,.op 1 0 0),(0,.sl (l.map encPt))],[(0,⟨2,true,[encPt l[i]]⟩),(1,⟨2,true,[encPt b]⟩)],32,69⟩) (fun j=>∀k,k<l.length→i+2≤k→k<i+2+j→qc9 l i k=false)
    (qaa (nx:=32) (k:=0) (ns:=[]) (ks:=[8,12,11,4,3,5,6,0]) [(480,0),(512,1)] rfl (by simp) (by kernel_rfl)) (by omega) ?_
   intro j hj hC2
   by_cases h5:i+2+j<l.length
   ·have ek:=qdJ h5
    have q0:ptOK (l[i+2+j])=true:=hok _ (List.getElem_mem h5)
    have q1:=hok _ (qbh h0 (i+2+j+1))
    have k3:Contract Tryz.prog 256 [.sl (l.map encPt),.int .i64 (((i+2+j:Nat):Int)+1)] (.ret (.agg (encPt (qaf l (i+2+j+1))))):=qik l h0 (by omega) (i+2+j+1)
    have mt:=qpx l[i] b l[i+2+j] (qaf l (i+2+j+1)) o0 o1 q0 q1
    have hpb:qc9 l i (i+2+j)=(decide ((i+2+j+1)%l.length≠i)&&qf7 l[i] b l[i+2+j] (qaf l (i+2+j+1))):=by rw[qc9,ec,ek,hb]
    have hsp:=fun h=>qhD (l:=l) h2 h5 (by omega) h
    rw[hpb]at hsp
    have hmod:(((i+2+j:Nat):Int)+1)%(l.length:Int)=(((i+2+j+1)%l.length:Nat):Int):=by
     rw[Int.natCast_emod];rfl
    generalize qaf l (i+2+j+1)=d at*
    generalize hk:i+2+j=k at*
    repeat'(first|refine zQ ?_|refine zF k3 ?_|refine zF mt ?_|(refine zI ?_;intro hlt)|(refine zC ?_ ?_<;>first|intro h|simp)|(refine zG ?_ ?_<;>first|intro h|simp)|refine zE ?_|fail)
    all_goals first
     |(exfalso;omega)
     |(refine(hsp ?_).symm
       simp only[Bool.and_eq_true,decide_eq_true_eq]
       exact⟨by omega,by assumption⟩)
     |(refine⟨by omega,fun k' hk' hk2 hk3=>?_,?_⟩
       ·by_cases hlast:k'<k
        ·exact hC2 k' hk' hk2 (by omega)
        ·have:k'=k:=by omega
         subst this
         rw[hpb]
         by_cases hm2:(k'+1)%l.length=i
         ·simp only[hm2,ne_eq,not_true_eq_false,decide_false,Bool.false_and]
         ·have:qf7 l[i] b l[k'] d=false:=by first|assumption|(exfalso;omega)
          rw[this,Bool.and_false]
       ·rw[show i+2+(j+1)=k+1 by omega]
        exact qaa (nx:=32) (k:=0) (ns:=[]) (ks:=[8,12,11,4,3,5,6,0]) [(0,0),(1,1)] rfl (by simp) (by kernel_rfl))
     |trace_state
   ·repeat'(first|refine zQ ?_|(refine zI ?_;intro hlt)|(refine zC ?_ ?_<;>first|intro h|simp)|(refine zG ?_ ?_<;>first|intro h|simp)|fail)
    all_goals first
     |(exfalso;omega)
     |(refine⟨h2,fun j' hj'=>?_,qaa (nx:=0) (k:=0) (ns:=[]) (ks:=[12,11,3,0]) [] rfl (by simp) (by kernel_rfl)⟩
       rcases Nat.lt_succ_iff_lt_or_eq.1 hj' with h'|rfl
       ·exact hCi j' h'
       ·exact⟨hb0,fun k hk hik=>hC2 k hk hik (by omega)⟩)
     |trace_state
  ·exact(hst (by simp[*])).symm
  ·have e1:qBp l[i] b=true:= ‹(decide (l[i].x=b.x)&&(decide (l[i].y=b.y)&&true))=true›
   exact(hst (by simp[*])).symm
 ·repeat'(first|refine zQ ?_|(refine zI ?_;intro hlt)|(refine zC ?_ ?_<;>first|intro h|simp)|refine zE ?_|fail)
  all_goals first
   |(exfalso;omega)
   |exact(qm9 (fun j hj=>(hC j (by omega)).1) fun j hj k hk hjk=>(hC j (by omega)).2 k hk hjk).symm
   |trace_state
end Go.Pv.Geo

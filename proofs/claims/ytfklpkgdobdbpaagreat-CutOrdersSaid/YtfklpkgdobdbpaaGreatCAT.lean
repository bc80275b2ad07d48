import Derived.Test.YtfklpkgdobdbpaaGreatCAP
/- Part of the proofs over YtfklpkgdobdbpaaGreat: PH12. -/
set_option linter.unusedVariables false
set_option linter.unusedSimpArgs false
set_option linter.unnecessarySimpa false
open Go Go.Proofs Go.Pv
set_option maxHeartbeats 8000000
set_option maxRecDepth 100000
set_option linter.unusedSimpArgs false
set_option linter.unusedVariables false
namespace Go.Pv.Geo
theorem qzU(a b:Pt):onE a b a=true:=by
 rw[onE,decide_eq_true_eq]
 exact⟨by simp[crossE],by omega,by omega⟩
theorem qu1(a b d:Pt):qf7 a b a d=true:=by simp[qf7,qzU]
theorem qu2{l:List Pt}{k i:Nat}(hk:k<i)(hi:i<l.length)(h:l[i]=l[k]):qdp l=false:=by
 have e1:qaf l k=l[k]:=qdJ (by omega)
 have e2:qaf l i=l[i]:=qdJ hi
 by_cases h1:i=k+1
 ·subst h1
  exact qfP (i:=k) (by omega) (by simp only[qdo];rw[e1,e2,h,qil.2 rfl];simp)
 by_cases h2:(i+1)%l.length=k
 ·have hn:i+1=l.length:=by
   rcases Nat.lt_or_ge (i+1) l.length with hlt|hge
   ·rw[Nat.mod_eq_of_lt hlt]at h2;omega
   ·omega
  rw[hn,Nat.mod_self]at h2
  subst h2
  have e3:qaf l (i+1)=l[0]:=by
   rw[hn,qdI (by omega)];simp
  exact qfP (i:=i) hi (by simp only[qdo];rw[e2,e3,h,qil.2 rfl];simp)
 ·exact qhD (i:=k) (k:=i) (by omega) hi (by omega) (by
   simp only[qc9,Bool.and_eq_true,decide_eq_true_eq]
   refine⟨h2,?_⟩
   rw[e1,e2,h];exact qu1 _ _ _)
def qpB(l:List Pt)(i:Nat):Bool:=onE (qaf l i) (qaf l (i+1)) (qaf l (i+2))||onE (qaf l (i+1)) (qaf l (i+2)) (qaf l i)
theorem qxj{l:List Pt}{i:Nat}(h:qpB l i=true):qdo l i=true:=by
 simp only[qpB,qdo,Bool.or_eq_true]at *;rcases h with h|h<;>simp[h]
theorem qCQ{l:List Pt}{i:Nat}(h3:3≤l.length)(hi:i<l.length)(hd:∀i (hi:i<l.length),∀k (hk:k<i),l[i]≠l[k])(h:qpB l i=false):qdo l i=false:=by
 simp only[qpB,qdo,Bool.or_eq_false_iff]at*
 refine⟨⟨?_,h.1⟩,h.2⟩
 rw[Bool.eq_false_iff]
 intro he
 have he:=qil.1 he
 rw[qdJ hi,qdI (by omega)]at he
 rcases Nat.lt_or_ge (i+1) l.length with hlt|hge
 ·simp only[Nat.mod_eq_of_lt hlt]at he
  exact hd (i+1) hlt i (by omega) he.symm
 ·have hn:i+1=l.length:=by omega
  simp only[hn,Nat.mod_self]at he
  exact hd i hi 0 (by omega) he
theorem c_rCheckPolygon(l:List Pt):Contract Tryz.prog 176 [.sl (l.map encPt)] (.ret (.int .i64 (polyE l))):=by
 by_cases hb:3≤l.length∧l.length≤40
 rotate_left
 ·refine zT mix Tryz.func176 Tryz.ntmps176 Tryz.results176 rfl rfl rfl ?_;simp only[qab,Nat.reduceAdd]
  repeat'(first|refine zQ ?_|(refine zC ?_ ?_<;>first|intro h|simp)|refine zE ?_|fail)
  ·unfold polyE;rw[if_pos (by omega)]
  ·unfold polyE;rw[if_neg (by omega),if_pos (by omega)]
  ·exfalso;omega
 have hp4:∀p∈l,ptOK p=false→polyE l=2:=fun p hp ho=>by
  unfold polyE;rw[if_neg (by omega),if_neg (by omega),if_pos (List.any_eq_true.2 ⟨p,hp,by rw[ho];rfl⟩)]
 have hpo:(∀p∈l,ptOK p=true)→polyE l=if qdp l=true then 0 else 3:=fun h=>by
  unfold polyE;rw[if_neg (by omega),if_neg (by omega),if_neg]
  simp only[List.any_eq_true,not_exists,not_and]
  intro q hq;rw[h q hq];simp
 refine zT mix Tryz.func176 Tryz.ntmps176 Tryz.results176 rfl rfl rfl ?_;simp only[qab,Nat.reduceAdd]
 repeat'(first|refine zQ ?_|(refine zC ?_ ?_<;>first|intro h|simp)|refine zE ?_|fail)
 all_goals try(exfalso;omega)
 refine qad (l.length) (fun i=>⟨[(3,.int .i64 i),(0,.sl (l.map encPt))],[],0,102⟩) (fun i=>∀j (hj:j<i) (hj':j<l.length),ptOK l[j]=true) (qaa (k:=0) (ns:=[]) (ks:=[3,0]) [] rfl (by simp) rfl) (by omega) ?_
 intro i hi hC
 by_cases h2:i<l.length
 ·have g:=qEW l[i]
  cases hp:ptOK l[i]
  ·rw[hp]at g
   have e:=hp4 _ (List.getElem_mem h2) hp
   repeat'(first|refine zQ ?_|refine zF g ?_|(refine zI ?_;intro hlt)|(refine zC ?_ ?_<;>first|intro h|simp)|refine zE ?_|fail)
   all_goals first|(exfalso;omega)|exact e.symm
  ·rw[hp]at g
   repeat'(first|refine zQ ?_|refine zF g ?_|(refine zI ?_;intro hlt)|(refine zC ?_ ?_<;>first|intro h|simp)|fail)
   all_goals first
    |(exfalso;omega)
    |(refine⟨h2,fun j hj hj'=>?_,qaa (k:=0) (ns:=[]) (ks:=[3,0]) [] rfl (by simp) rfl⟩
      rcases Nat.lt_succ_iff_lt_or_eq.1 hj with h'|rfl
      ·exact hC j h' hj'
      ·exact hp)
 have hok:∀p∈l,ptOK p=true:=fun p hp=>by
  obtain⟨j,hj,rfl⟩:=List.mem_iff_getElem.1 hp
  exact hC j (by omega) hj
 have hpe:=hpo hok
 have h0:0<l.length:=by omega
 clear hpo hp4
 repeat'(first|refine zQ ?_|(refine zI ?_;intro hlt)|(refine zC ?_ ?_<;>first|intro h|simp)|fail)
 all_goals try(exfalso;omega)
 refine qad (l.length) (fun i=>⟨[(5,.int .i64 i),(4,.int .i64 l.length),(0,.sl (l.map encPt))],[],0,102⟩) (fun i=>∀j (hj:j<i) (hj':j<l.length),∀k (hk:k<j),l[j]≠l[k]) (qaa (k:=0) (ns:=[]) (ks:=[5,4,0]) [] rfl (by simp) rfl) (by omega) ?_
 intro i hi hC
 by_cases h2:i<l.length
 ·repeat'(first|refine zQ ?_|(refine zC ?_ ?_<;>first|intro h|simp)|fail)
  all_goals try(exfalso;omega)
  refine qad i (fun k=>⟨[(6,.int .i64 k),(5,.int .i64 i),(4,.int .i64 l.length),(0,.sl (l.map encPt))],[],0,102⟩) (fun k=>∀j (hj:j<k) (hj':j<i),l[i]≠l[j])
   (qaa (nx:=0) (k:=0) (ns:=[]) (ks:=[6,5,4,0]) [] rfl (by simp) (by kernel_rfl)) (by omega) ?_
  intro k hk hC2
  by_cases h3:k<i
  ·repeat'(first|refine zQ ?_|(refine zI ?_;intro hlt)|(refine zC ?_ ?_<;>first|intro h|simp)|refine zE ?_|fail)
   all_goals first
    |(exfalso;omega)
    |(have e1:qBp l[i] l[k]=true:=by assumption
      rw[hpe,qu2 h3 h2 (qil.1 e1)];rfl)
    |(have e1:qBp l[i] l[k]=false:=by assumption
      refine⟨h3,fun j hj hj'=>?_,qaa (nx:=0) (k:=0) (ns:=[]) (ks:=[6,5,4,0]) [] rfl (by simp) (by kernel_rfl)⟩
      rcases Nat.lt_succ_iff_lt_or_eq.1 hj with h'|rfl
      ·exact hC2 j h' hj'
      ·intro he;rw[qil.2 he]at e1;cases e1)
    |trace_state
  ·repeat'(first|refine zQ ?_|(refine zI ?_;intro hlt)|(refine zC ?_ ?_<;>first|intro h|simp)|refine zE ?_|fail)
   all_goals first
    |(exfalso;omega)
    |(refine⟨h2,fun j hj hj'=>?_,qaa (k:=0) (ns:=[]) (ks:=[5,4,0]) [] rfl (by simp) rfl⟩
      rcases Nat.lt_succ_iff_lt_or_eq.1 hj with h'|rfl
      ·exact hC j h' hj'
      ·exact fun k' hk'=>hC2 k' (by omega) hk')
    |trace_state
 have hd:∀i (hi:i<l.length),∀k (hk:k<i),l[i]≠l[k]:=fun i' hi'=>hC i' (by omega) hi'
 repeat'(first|refine zQ ?_|(refine zC ?_ ?_<;>first|intro h|simp)|fail)
 all_goals try(exfalso;omega)
 refine qad (l.length) (fun i=>⟨[(7,.int .i64 i),(4,.int .i64 l.length),(0,.sl (l.map encPt))],[],0,102⟩) (fun i=>∀j,j<i→qpB l j=false∧∀k,k<l.length→j+2≤k→qc9 l j k=false) (qaa (k:=0) (ns:=[]) (ks:=[7,4,0]) [] rfl (by simp) rfl) (by omega) ?_
 intro i hi hC
 by_cases h2:i<l.length
 rotate_left
 ·repeat'(first|refine zQ ?_|(refine zC ?_ ?_<;>first|intro h|simp)|refine zE ?_|fail)
  all_goals first
   |(exfalso;omega)
   |(rw[hpe,qm9 (fun j hj=>qCQ hb.1 hj hd (hC j (by omega)).1) fun j hj k hk hjk=>(hC j (by omega)).2 k hk hjk];rfl)
   |trace_state
 have o0:=hok _ (qbh h0 i)
 have o1:=hok _ (qbh h0 (i+1))
 have o2:=hok _ (qbh h0 (i+2))
 have k0:=qcV l h0 (by omega) i
 have k1:Contract Tryz.prog 198 [.sl (l.map encPt),.int .i64 ((i:Int)+1)] (.ret (.agg (encPt (qaf l (i+1))))):=qcV l h0 (by omega) (i+1)
 have k2:Contract Tryz.prog 198 [.sl (l.map encPt),.int .i64 ((i:Int)+2)] (.ret (.agg (encPt (qaf l (i+2))))):=qcV l h0 (by omega) (i+2)
 have n1:=qdH (qaf l i) (qaf l (i+1)) (qaf l (i+2)) o0 o1 o2
 have n2:=qdH (qaf l (i+1)) (qaf l (i+2)) (qaf l i) o1 o2 o0
 have hst:=fun h=>qfP (l:=l) h2 (qxj h)
 have hbad:qpB l i=(onE (qaf l i) (qaf l (i+1)) (qaf l (i+2))||onE (qaf l (i+1)) (qaf l (i+2)) (qaf l i)):=rfl
 rw[hbad]at hst
 generalize ha:qaf l i=a at*
 generalize hb':qaf l (i+1)=b at*
 generalize hc:qaf l (i+2)=c at*
 have hCi:∀j,j<i→qpB l j=false∧∀k,k<l.length→j+2≤k→qc9 l j k=false:=hC
 repeat'(first|refine zQ ?_|refine zF k0 ?_|refine zF k1 ?_|refine zF k2 ?_|refine zF n1 ?_|refine zF n2 ?_|(refine zC ?_ ?_<;>first|intro h|simp)|(refine zG ?_ ?_<;>first|intro h|simp)|refine zE ?_|fail)
 all_goals try(exfalso;omega)
 ·rw[hpe,hst (by simp[*])];rfl
 ·have hb0:qpB l i=false:=by rw[hbad];simp[*]
  refine qad l.length (fun j=>⟨[(11,.int .i64 ((i+2+j:Nat):Int)),(7,.int .i64 i),(4,.int .i64 l.length),(8,.op 0 0 0),(9,.op 1 0 0),(0,.sl (l.map encPt))],[(0,⟨2,true,[encPt a]⟩),(1,⟨2,true,[encPt b]⟩)],32,102⟩) (fun j=>∀k,k<l.length→i+2≤k→k<i+2+j→qc9 l i k=false)
   (qaa (nx:=32) (k:=0) (ns:=[]) (ks:=[11,7,4,8,9,0]) [(448,0),(480,1)] rfl (by simp) (by kernel_rfl)) (by omega) ?_
  intro j hj hC2
  by_cases h5:i+2+j<l.length
  ·have q0:=hok _ (qbh h0 (i+2+j))
   have q1:=hok _ (qbh h0 (i+2+j+1))
   have k3:=qcV l h0 (by omega) (i+2+j)
   have k4:Contract Tryz.prog 198 [.sl (l.map encPt),.int .i64 (((i+2+j:Nat):Int)+1)] (.ret (.agg (encPt (qaf l (i+2+j+1))))):=qcV l h0 (by omega) (i+2+j+1)
   have mt:=qlk a b (qaf l (i+2+j)) (qaf l (i+2+j+1)) o0 o1 q0 q1
   have hpb:qc9 l i (i+2+j)=(decide ((i+2+j+1)%l.length≠i)&&qf7 a b (qaf l (i+2+j)) (qaf l (i+2+j+1))):=by rw[qc9,ha,hb']
   have hsp:=fun h=>qhD (l:=l) h2 h5 (by omega) h
   rw[hpb]at hsp
   have hmod:(((i+2+j:Nat):Int)+1)%(l.length:Int)=(((i+2+j+1)%l.length:Nat):Int):=by
    rw[Int.natCast_emod];rfl
   generalize qaf l (i+2+j+1)=d at*
   generalize qaf l (i+2+j)=e at*
   generalize hk:i+2+j=k at*
   repeat'(first|refine zQ ?_|refine zF k3 ?_|refine zF k4 ?_|refine zF mt ?_|(refine zC ?_ ?_<;>first|intro h|simp)|(refine zG ?_ ?_<;>first|intro h|simp)|refine zE ?_|fail)
   all_goals first
    |(exfalso;omega)
    |(rw[hpe,hsp ?_];rfl
      simp only[Bool.and_eq_true,decide_eq_true_eq]
      exact⟨by omega,by assumption⟩)
    |(refine⟨by omega,fun k' hk' hk2 hk3=>?_,?_⟩
      ·by_cases hlast:k'<k
       ·exact hC2 k' hk' hk2 (by omega)
       ·have:k'=k:=by omega
        subst this
        rw[hpb]
        by_cases hm2:(k'+1)%l.length=i
        ·simp only[hm2,ne_eq,not_true_eq_false,decide_false,Bool.false_and]
        ·have:qf7 a b e d=false:=by first|assumption|(exfalso;omega)
         rw[this,Bool.and_false]
      ·rw[show i+2+(j+1)=k+1 by omega]
       exact qaa (nx:=32) (k:=0) (ns:=[]) (ks:=[11,7,4,8,9,0]) [(0,0),(1,1)] rfl (by simp) (by kernel_rfl))
    |trace_state
  ·repeat'(first|refine zQ ?_|(refine zC ?_ ?_<;>first|intro h|simp)|(refine zG ?_ ?_<;>first|intro h|simp)|fail)
   all_goals first
    |(exfalso;omega)
    |(refine⟨h2,fun j' hj'=>?_,qaa (k:=0) (ns:=[]) (ks:=[7,4,0]) [] rfl (by simp) rfl⟩
      rcases Nat.lt_succ_iff_lt_or_eq.1 hj' with h'|rfl
      ·exact hCi j' h'
      ·exact⟨hb0,fun k hk hik=>hC2 k hk hik (by omega)⟩)
    |trace_state
 ·rw[hpe,hst (by simp[*])];rfl
end Go.Pv.Geo

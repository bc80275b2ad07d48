import Derived.Test.YtfklpkgdobdbpaaGreatCAL
/- Part of the proofs over YtfklpkgdobdbpaaGreat: PH12, R13. -/
set_option linter.unusedVariables false
set_option linter.unusedSimpArgs false
set_option linter.unnecessarySimpa false
open Go Go.Proofs Go.Pv
set_option maxHeartbeats 8000000
set_option maxRecDepth 100000
set_option linter.unusedSimpArgs false
set_option linter.unusedVariables false
namespace Go.Pv.Geo
theorem qx0(a b:Pt):onE a b a=true:=by
 rw[onE,decide_eq_true_eq]
 exact⟨by simp[crossE],by omega,by omega⟩
theorem qte(a b d:Pt):qfB a b a d=true:=by simp[qfB,qx0]
theorem qtf{l:List Pt}{k i:Nat}(hk:k<i)(hi:i<l.length)(h:l[i]=l[k]):qc9 l=false:=by
 have e1:qae l k=l[k]:=qdt (by omega)
 have e2:qae l i=l[i]:=qdt hi
 by_cases h1:i=k+1
 ·subst h1
  exact qfm (i:=k) (by omega) (by simp only[qc8];rw[e1,e2,h,qhR.2 rfl];simp)
 by_cases h2:(i+1)%l.length=k
 ·have hn:i+1=l.length:=by
   rcases Nat.lt_or_ge (i+1) l.length with hlt|hge
   ·rw[Nat.mod_eq_of_lt hlt]at h2;omega
   ·omega
  rw[hn,Nat.mod_self]at h2
  subst h2
  have e3:qae l (i+1)=l[0]:=by
   rw[hn,qds (by omega)];simp
  exact qfm (i:=i) hi (by simp only[qc8];rw[e2,e3,h,qhR.2 rfl];simp)
 ·exact qhf (i:=k) (k:=i) (by omega) hi (by omega) (by
   simp only[qcS,Bool.and_eq_true,decide_eq_true_eq]
   refine⟨h2,?_⟩
   rw[e1,e2,h];exact qte _ _ _)
def qow(l:List Pt)(i:Nat):Bool:=onE (qae l i) (qae l (i+1)) (qae l (i+2))||onE (qae l (i+1)) (qae l (i+2)) (qae l i)
theorem qvp{l:List Pt}{i:Nat}(h:qow l i=true):qc8 l i=true:=by
 simp only[qow,qc8,Bool.or_eq_true]at *;rcases h with h|h<;>simp[h]
theorem qAJ{l:List Pt}{i:Nat}(h3:3≤l.length)(hi:i<l.length)(hd:∀i (hi:i<l.length),∀k (hk:k<i),l[i]≠l[k])(h:qow l i=false):qc8 l i=false:=by
 simp only[qow,qc8,Bool.or_eq_false_iff]at*
 refine⟨⟨?_,h.1⟩,h.2⟩
 rw[Bool.eq_false_iff]
 intro he
 have he:=qhR.1 he
 rw[qdt hi,qds (by omega)]at he
 rcases Nat.lt_or_ge (i+1) l.length with hlt|hge
 ·simp only[Nat.mod_eq_of_lt hlt]at he
  exact hd (i+1) hlt i (by omega) he.symm
 ·have hn:i+1=l.length:=by omega
  simp only[hn,Nat.mod_self]at he
  exact hd i hi 0 (by omega) he
theorem c_rCheckPolygon(l:List Pt):Contract Tryz.prog 176 [.sl (l.map encPt)] (.ret (.int .i64 (polyE l))):=by
 by_cases hb:3≤l.length∧l.length≤40
 rotate_left
 ·refine zT mix Tryz.func176 Tryz.ntmps176 Tryz.results176 rfl rfl rfl ?_;simp only[qac,Nat.reduceAdd]
  repeat'(first|refine zQ ?_|(refine zC ?_ ?_<;>first|intro h|simp)|refine zE ?_|fail)
  ·unfold polyE;rw[if_pos (by omega)]
  ·unfold polyE;rw[if_neg (by omega),if_pos (by omega)]
  ·exfalso;omega
 have hp4:∀p∈l,ptOK p=false→polyE l=2:=fun p hp ho=>by
  unfold polyE;rw[if_neg (by omega),if_neg (by omega),if_pos (List.any_eq_true.2 ⟨p,hp,by rw[ho];rfl⟩)]
 have hpo:(∀p∈l,ptOK p=true)→polyE l=if qc9 l=true then 0 else 3:=fun h=>by
  unfold polyE;rw[if_neg (by omega),if_neg (by omega),if_neg]
  simp only[List.any_eq_true,not_exists,not_and]
  intro q hq;rw[h q hq];simp
 refine zT mix Tryz.func176 Tryz.ntmps176 Tryz.results176 rfl rfl rfl ?_;simp only[qac,Nat.reduceAdd]
 repeat'(first|refine zQ ?_|(refine zC ?_ ?_<;>first|intro h|simp)|refine zE ?_|fail)
 all_goals try(exfalso;omega)
 refine qaf (l.length) (fun i=>⟨[(3,.int .i64 i),(0,.sl (l.map encPt))],[],0,102⟩) (fun i=>∀j (hj:j<i) (hj':j<l.length),ptOK l[j]=true) (qaa (k:=0) (ns:=[]) (ks:=[3,0]) [] rfl (by simp) rfl) (by omega) ?_
 intro i hi hC
 by_cases h2:i<l.length
 ·have g:=qCK l[i]
  cases hp:ptOK l[i]
  ·rw[hp]at g
   have e:=hp4 _ (List.getElem_mem h2) hp
   repeat'(first|refine zQ ?_|refine zF g ?_|(refine zI ?_;intro hlt)|(refine zC ?_ ?_<;>first|intro h|simp)|refine zE ?_|fail)
   all_goals first|(exfalso;omega)|exact e.symm
  ·rw[hp]at g
   repeat'(first|refine zQ ?_|refine zF g ?_|(refine zI ?_;intro hlt)|(refine zC ?_ ?_<;>first|intro h|simp)|fail)
   all_goals first
    |(exfalso;omega)
    |(refine⟨h2,fun j hj hj'=>?_,qaa (k:=0) (ns:=[]) (ks:=[3,0]) [] rfl (by simp) rfl⟩
      rcases Nat.lt_succ_iff_lt_or_eq.1 hj with h'|rfl
      ·exact hC j h' hj'
      ·exact hp)
 have hok:∀p∈l,ptOK p=true:=fun p hp=>by
  obtain⟨j,hj,rfl⟩:=List.mem_iff_getElem.1 hp
  exact hC j (by omega) hj
 have hpe:=hpo hok
 have h0:0<l.length:=by omega
 clear hpo hp4
 repeat'(first|refine zQ ?_|(refine zI ?_;intro hlt)|(refine zC ?_ ?_<;>first|intro h|simp)|fail)
 all_goals try(exfalso;omega)
 refine qaf (l.length) (fun i=>⟨[(5,.int .i64 i),(4,.int .i64 l.length),(0,.sl (l.map encPt))],[],0,102⟩) (fun i=>∀j (hj:j<i) (hj':j<l.length),∀k (hk:k<j),l[j]≠l[k]) (qaa (k:=0) (ns:=[]) (ks:=[5,4,0]) [] rfl (by simp) rfl) (by omega) ?_
 intro i hi hC
 by_cases h2:i<l.length
 ·repeat'(first|refine zQ ?_|(refine zC ?_ ?_<;>first|intro h|simp)|fail)
  all_goals try(exfalso;omega)
  refine qaf i (fun k=>⟨[(6,.int .i64 k),(5,.int .i64 i),(4,.int .i64 l.length),(0,.sl (l.map encPt))],[],0,102⟩) (fun k=>∀j (hj:j<k) (hj':j<i),l[i]≠l[j])
   (qaa (nx:=0) (k:=0) (ns:=[]) (ks:=[6,5,4,0]) [] rfl (by simp) (by kernel_rfl)) (by omega) ?_
  intro k hk hC2
  by_cases h3:k<i
  ·repeat'(first|refine zQ ?_|(refine zI ?_;intro hlt)|(refine zC ?_ ?_<;>first|intro h|simp)|refine zE ?_|fail)
   all_goals first
    |(exfalso;omega)
    |(have e1:qzk l[i] l[k]=true:=by assumption
      rw[hpe,qtf h3 h2 (qhR.1 e1)];rfl)
    |(have e1:qzk l[i] l[k]=false:=by assumption
      refine⟨h3,fun j hj hj'=>?_,qaa (nx:=0) (k:=0) (ns:=[]) (ks:=[6,5,4,0]) [] rfl (by simp) (by kernel_rfl)⟩
      rcases Nat.lt_succ_iff_lt_or_eq.1 hj with h'|rfl
      ·exact hC2 j h' hj'
      ·intro he;rw[qhR.2 he]at e1;cases e1)
    |trace_state
  ·repeat'(first|refine zQ ?_|(refine zI ?_;intro hlt)|(refine zC ?_ ?_<;>first|intro h|simp)|refine zE ?_|fail)
   all_goals first
    |(exfalso;omega)
    |(refine⟨h2,fun j hj hj'=>?_,qaa (k:=0) (ns:=[]) (ks:=[5,4,0]) [] rfl (by simp) rfl⟩
      rcases Nat.lt_succ_iff_lt_or_eq.1 hj with h'|rfl
      ·exact hC j h' hj'
      ·exact fun k' hk'=>hC2 k' (by omega) hk')
    |trace_state
 have hd:∀i (hi:i<l.length),∀k (hk:k<i),l[i]≠l[k]:=fun i' hi'=>hC i' (by omega) hi'
 repeat'(first|refine zQ ?_|(refine zC ?_ ?_<;>first|intro h|simp)|fail)
 all_goals try(exfalso;omega)
 refine qaf (l.length) (fun i=>⟨[(7,.int .i64 i),(4,.int .i64 l.length),(0,.sl (l.map encPt))],[],0,102⟩) (fun i=>∀j,j<i→qow l j=false∧∀k,k<l.length→j+2≤k→qcS l j k=false) (qaa (k:=0) (ns:=[]) (ks:=[7,4,0]) [] rfl (by simp) rfl) (by omega) ?_
 intro i hi hC
 by_cases h2:i<l.length
 rotate_left
 ·repeat'(first|refine zQ ?_|(refine zC ?_ ?_<;>first|intro h|simp)|refine zE ?_|fail)
  all_goals first
   |(exfalso;omega)
   |(rw[hpe,ql5 (fun j hj=>qAJ hb.1 hj hd (hC j (by omega)).1) fun j hj k hk hjk=>(hC j (by omega)).2 k hk hjk];rfl)
   |trace_state
 have o0:=hok _ (qa4 h0 i)
 have o1:=hok _ (qa4 h0 (i+1))
 have o2:=hok _ (qa4 h0 (i+2))
 have k0:=qcF l h0 (by omega) i
 have k1:Contract Tryz.prog 198 [.sl (l.map encPt),.int .i64 ((i:Int)+1)] (.ret (.agg (encPt (qae l (i+1))))):=qcF l h0 (by omega) (i+1)
 have k2:Contract Tryz.prog 198 [.sl (l.map encPt),.int .i64 ((i:Int)+2)] (.ret (.agg (encPt (qae l (i+2))))):=qcF l h0 (by omega) (i+2)
 have n1:=qdp (qae l i) (qae l (i+1)) (qae l (i+2)) o0 o1 o2
 have n2:=qdp (qae l (i+1)) (qae l (i+2)) (qae l i) o1 o2 o0
 have hst:=fun h=>qfm (l:=l) h2 (qvp h)
 have hbad:qow l i=(onE (qae l i) (qae l (i+1)) (qae l (i+2))||onE (qae l (i+1)) (qae l (i+2)) (qae l i)):=rfl
 rw[hbad]at hst
 generalize ha:qae l i=a at*
 generalize hb':qae l (i+1)=b at*
 generalize hc:qae l (i+2)=c at*
 have hCi:∀j,j<i→qow l j=false∧∀k,k<l.length→j+2≤k→qcS l j k=false:=hC
 repeat'(first|refine zQ ?_|refine zF k0 ?_|refine zF k1 ?_|refine zF k2 ?_|refine zF n1 ?_|refine zF n2 ?_|(refine zC ?_ ?_<;>first|intro h|simp)|(refine zG ?_ ?_<;>first|intro h|simp)|refine zE ?_|fail)
 all_goals try(exfalso;omega)
 ·rw[hpe,hst (by simp[*])];rfl
 ·have hb0:qow l i=false:=by rw[hbad];simp[*]
  refine qaf l.length (fun j=>⟨[(11,.int .i64 ((i+2+j:Nat):Int)),(7,.int .i64 i),(4,.int .i64 l.length),(8,.op 0 0 0),(9,.op 1 0 0),(0,.sl (l.map encPt))],[(0,⟨2,true,[encPt a]⟩),(1,⟨2,true,[encPt b]⟩)],32,102⟩) (fun j=>∀k,k<l.length→i+2≤k→k<i+2+j→qcS l i k=false)
   (qaa (nx:=32) (k:=0) (ns:=[]) (ks:=[11,7,4,8,9,0]) [(448,0),(480,1)] rfl (by simp) (by kernel_rfl)) (by omega) ?_
  intro j hj hC2
  by_cases h5:i+2+j<l.length
  ·have q0:=hok _ (qa4 h0 (i+2+j))
   have q1:=hok _ (qa4 h0 (i+2+j+1))
   have k3:=qcF l h0 (by omega) (i+2+j)
   have k4:Contract Tryz.prog 198 [.sl (l.map encPt),.int .i64 (((i+2+j:Nat):Int)+1)] (.ret (.agg (encPt (qae l (i+2+j+1))))):=qcF l h0 (by omega) (i+2+j+1)
   have mt:=qkA a b (qae l (i+2+j)) (qae l (i+2+j+1)) o0 o1 q0 q1
   have hpb:qcS l i (i+2+j)=(decide ((i+2+j+1)%l.length≠i)&&qfB a b (qae l (i+2+j)) (qae l (i+2+j+1))):=by rw[qcS,ha,hb']
   have hsp:=fun h=>qhf (l:=l) h2 h5 (by omega) h
   rw[hpb]at hsp
   have hmod:(((i+2+j:Nat):Int)+1)%(l.length:Int)=(((i+2+j+1)%l.length:Nat):Int):=by
    rw[Int.natCast_emod];rfl
   generalize qae l (i+2+j+1)=d at*
   generalize qae l (i+2+j)=e at*
   generalize hk:i+2+j=k at*
   repeat'(first|refine zQ ?_|refine zF k3 ?_|refine zF k4 ?_|refine zF mt ?_|(refine zC ?_ ?_<;>first|intro h|simp)|(refine zG ?_ ?_<;>first|intro h|simp)|refine zE ?_|fail)
   all_goals first
    |(exfalso;omega)
    |(rw[hpe,hsp ?_];rfl
      simp only[Bool.and_eq_true,decide_eq_true_eq]
      exact⟨by omega,by assumption⟩)
    |(refine⟨by omega,fun k' hk' hk2 hk3=>?_,?_⟩
      ·by_cases hlast:k'<k
       ·exact hC2 k' hk' hk2 (by omega)
       ·have:k'=k:=by omega
        subst this
        rw[hpb]
        by_cases hm2:(k'+1)%l.length=i
        ·simp only[hm2,ne_eq,not_true_eq_false,decide_false,Bool.false_and]
        ·have:qfB a b e d=false:=by first|assumption|(exfalso;omega)
         rw[this,Bool.and_false]
      ·rw[show i+2+(j+1)=k+1 by omega]
       exact qaa (nx:=32) (k:=0) (ns:=[]) (ks:=[11,7,4,8,9,0]) [(0,0),(1,1)] rfl (by simp) (by kernel_rfl))
    |trace_state
  ·repeat'(first|refine zQ ?_|(refine zC ?_ ?_<;>first|intro h|simp)|(refine zG ?_ ?_<;>first|intro h|simp)|fail)
   all_goals first
    |(exfalso;omega)
    |(refine⟨h2,fun j' hj'=>?_,qaa (k:=0) (ns:=[]) (ks:=[7,4,0]) [] rfl (by simp) rfl⟩
      rcases Nat.lt_succ_iff_lt_or_eq.1 hj' with h'|rfl
      ·exact hCi j' h'
      ·exact⟨hb0,fun k hk hik=>hC2 k hk hik (by omega)⟩)
    |trace_state
 ·rw[hpe,hst (by simp[*])];rfl
end Go.Pv.Geo
namespace Go.Pv.Soil
theorem own:ownKnob Tryz.prog.godebug=none:=by kernel_rfl
theorem laidOut:laidOutB Tryz.prog=true:=by kernel_rfl
theorem qfE:Reads Tryz.prog 3 I64 (fun n=>[.int .i64 n]):=quE Tryz.underlying3 (by kernel_rfl)
theorem qxa:Reads Tryz.prog 9 (fun s:ByteArray=>s.size≤maxLen) (fun s=>[.str s]):=quF Tryz.underlying9 (by kernel_rfl)
theorem qF4:Reads Tryz.prog 22 (fun l:List Int=>l.length≤maxLen∧∀a∈l,I64 a) (fun l=>[.sl (l.map qak)]):=qbl Tryz.underlying22 qfE (k:=1) (by kernel_rfl) (by decide) (by kernel_rfl)
theorem qF5:Reads Tryz.prog 108 (fun x:Geo.Pt=>True) Geo.encPt:=
 (qaN Tryz.underlying108 (by kernel_rfl) (qag (k:=1) qfE (by kernel_rfl) rfl (qag (k:=1) qfE (by kernel_rfl) rfl qbc))).map
  (fun x=>⟨x.1,x.2.1⟩) (fun _ _=>rfl) (fun _ h=>trivial) fun _ _=>by kernel_rfl
theorem qF6:Reads Tryz.prog 102 (fun l:List Geo.Pt=>l.length≤maxLen∧∀a∈l,True) (fun l=>[.sl (l.map Geo.encPt)]):=qbl Tryz.underlying102 qF5 (k:=2) (by kernel_rfl) (by decide) (by kernel_rfl)
theorem qF7:Reads Tryz.prog 216 (fun x:Int×Int=>True) (fun x=>[.int .i64 x.1,.int .i64 x.2]):=
 (qaN Tryz.underlying216 (by kernel_rfl) (qag (k:=1) qfE (by kernel_rfl) rfl (qag (k:=1) qfE (by kernel_rfl) rfl qbc))).map (fun x=>(x.1,x.2.1)) (fun _ _=>rfl) (fun _ h=>trivial) fun _ _=>by kernel_rfl
theorem qF8:Reads Tryz.prog 218 (fun x:Soil=>True) qaC:=
 (qaN Tryz.underlying218 (by kernel_rfl) (qag (k:=1) qxa (by kernel_rfl) rfl (qag (k:=1) qfE (by kernel_rfl) rfl (qag (k:=1) qfE (by kernel_rfl) rfl (qag (k:=2) qF7 (by kernel_rfl) rfl qbc))))).map
  (fun x=>⟨x.1,x.2.1,x.2.2.1,x.2.2.2.1.1,x.2.2.2.1.2⟩) (fun _ _=>rfl) (fun _ h=>trivial) fun _ _=>by kernel_rfl
theorem qDD:Reads Tryz.prog 25 (fun l:List Soil=>l.length≤maxLen∧∀a∈l,True) (fun l=>[.sl (l.map qaC)]):=qbl Tryz.underlying25 qF8 (k:=5) (by kernel_rfl) (by decide) (by kernel_rfl)
theorem qDE:Reads Tryz.prog 220 (fun x:Layer=>True) qeB:=
 (qaN Tryz.underlying220 (by kernel_rfl) (qag (k:=1) qfE (by kernel_rfl) rfl (qag (k:=1) qxa (by kernel_rfl) rfl qbc))).map
  (fun x=>⟨x.1,x.2.1⟩) (fun _ _=>rfl) (fun _ h=>trivial) fun _ _=>by kernel_rfl
theorem qBL:Reads Tryz.prog 136 (fun l:List Layer=>l.length≤maxLen∧∀a∈l,True) (fun l=>[.sl (l.map qeB)]):=qbl Tryz.underlying136 qDE (k:=2) (by kernel_rfl) (by decide) (by kernel_rfl)
theorem qJY:Reads Tryz.prog 138 (fun x:Boring=>x.layers.length≤maxLen) qbs:=
 (qaN Tryz.underlying138 (by kernel_rfl) (qag (k:=1) qxa (by kernel_rfl) rfl (qag (k:=1) qfE (by kernel_rfl) rfl (qag (k:=1) qfE (by kernel_rfl) rfl (qag (k:=1) qBL (by kernel_rfl) rfl qbc))))).map
  (fun x=>⟨x.1,x.2.1,x.2.2.1,x.2.2.2.1⟩) (fun _ _=>rfl) (fun _ h=>h.2.2.2.1.1) fun _ _=>by kernel_rfl
theorem qF9:Reads Tryz.prog 26 (fun l:List Boring=>l.length≤maxLen∧∀a∈l,a.layers.length≤maxLen) (fun l=>[.sl (l.map qbs)]):=qbl Tryz.underlying26 qJY (k:=4) (by kernel_rfl) (by decide) (by kernel_rfl)
theorem qBM:Reads Tryz.prog 28 (fun x:Ground=>x.soils.length≤maxLen∧x.borings.length≤maxLen∧∀b∈x.borings,b.layers.length≤maxLen) qam:=
 (qaN Tryz.underlying28 (by kernel_rfl) (qag (k:=1) qDD (by kernel_rfl) rfl (qag (k:=1) qF9 (by kernel_rfl) rfl qbc))).map
  (fun x=>⟨x.1,x.2.1⟩) (fun _ _=>rfl) (fun _ h=>⟨h.1.1,h.2.1⟩) fun _ _=>by kernel_rfl
theorem qzR:Reads Tryz.prog 24 (fun x:Grid=>x.levels.length≤maxLen) encGrid:=
 (qaN Tryz.underlying24 (by kernel_rfl) (qag (k:=1) qfE (by kernel_rfl) rfl (qag (k:=1) qfE (by kernel_rfl) rfl (qag (k:=1) qfE (by kernel_rfl) rfl (qag (k:=1) qfE (by kernel_rfl) rfl (qag (k:=1) qfE (by kernel_rfl) rfl (qag (k:=1) qF4 (by kernel_rfl) rfl qbc))))))).map
  (fun x=>⟨x.1,x.2.1,x.2.2.1,x.2.2.2.1,x.2.2.2.2.1,x.2.2.2.2.2.1⟩) (fun _ _=>rfl) (fun _ h=>h.2.2.2.2.2.1.1) fun _ _=>by kernel_rfl
theorem qGa:Reads Tryz.prog 104 (fun x:qfD=>x.corners.length≤maxLen) qbv:=
 (qaN Tryz.underlying104 (by kernel_rfl) (qag (k:=1) qxa (by kernel_rfl) rfl (qag (k:=1) qfE (by kernel_rfl) rfl (qag (k:=1) qF6 (by kernel_rfl) rfl qbc)))).map
  (fun x=>⟨x.1,x.2.1,x.2.2.1⟩) (fun _ _=>rfl) (fun _ h=>h.2.2.1.1) fun _ _=>by kernel_rfl
theorem qDF:Reads Tryz.prog 29 (fun l:List qfD=>l.length≤maxLen∧∀a∈l,a.corners.length≤maxLen) (fun l=>[.sl (l.map qbv)]):=qbl Tryz.underlying29 qGa (k:=3) (by kernel_rfl) (by decide) (by kernel_rfl)
theorem qGb:Reads Tryz.prog 110 (fun x:Quay=>True) qcf:=
 (qaN Tryz.underlying110 (by kernel_rfl) (qag (k:=1) qxa (by kernel_rfl) rfl (qag (k:=2) qF5 (by kernel_rfl) rfl (qag (k:=2) qF5 (by kernel_rfl) rfl (qag (k:=1) qfE (by kernel_rfl) rfl (qag (k:=1) qfE (by kernel_rfl) rfl qbc)))))).map
  (fun x=>⟨x.1,x.2.1,x.2.2.1,x.2.2.2.1,x.2.2.2.2.1⟩) (fun _ _=>rfl) (fun _ h=>trivial) fun _ _=>by kernel_rfl
theorem qDG:Reads Tryz.prog 30 (fun l:List Quay=>l.length≤maxLen∧∀a∈l,True) (fun l=>[.sl (l.map qcf)]):=qbl Tryz.underlying30 qGb (k:=7) (by kernel_rfl) (by decide) (by kernel_rfl)
theorem qGc:Reads Tryz.prog 222 (fun x:Mark=>True) qeK:=
 (qaN Tryz.underlying222 (by kernel_rfl) (qag (k:=1) qfE (by kernel_rfl) rfl (qag (k:=1) qfE (by kernel_rfl) rfl qbc))).map
  (fun x=>⟨x.1,x.2.1⟩) (fun _ _=>rfl) (fun _ h=>trivial) fun _ _=>by kernel_rfl
theorem qDH:Reads Tryz.prog 139 (fun l:List Mark=>l.length≤maxLen∧∀a∈l,True) (fun l=>[.sl (l.map qeK)]):=qbl Tryz.underlying139 qGc (k:=2) (by kernel_rfl) (by decide) (by kernel_rfl)
theorem qDI:Reads Tryz.prog 141 (fun x:Gauge=>x.marks.length≤maxLen) qat:=
 (qaN Tryz.underlying141 (by kernel_rfl) (qag (k:=1) qxa (by kernel_rfl) rfl (qag (k:=1) qfE (by kernel_rfl) rfl (qag (k:=1) qfE (by kernel_rfl) rfl (qag (k:=1) qDH (by kernel_rfl) rfl qbc))))).map
  (fun x=>⟨x.1,x.2.1,x.2.2.1,x.2.2.2.1⟩) (fun _ _=>rfl) (fun _ h=>h.2.2.2.1.1) fun _ _=>by kernel_rfl
theorem qBN:Reads Tryz.prog 31 (fun l:List Gauge=>l.length≤maxLen∧∀a∈l,a.marks.length≤maxLen) (fun l=>[.sl (l.map qat)]):=qbl Tryz.underlying31 qDI (k:=4) (by kernel_rfl) (by decide) (by kernel_rfl)
theorem qGd:Reads Tryz.prog 146 (fun x:Outp=>True) qbN:=
 (qaN Tryz.underlying146 (by kernel_rfl) (qag (k:=1) qxa (by kernel_rfl) rfl (qag (k:=1) qfE (by kernel_rfl) rfl (qag (k:=1) qfE (by kernel_rfl) rfl qbc)))).map
  (fun x=>⟨x.1,x.2.1,x.2.2.1⟩) (fun _ _=>rfl) (fun _ h=>trivial) fun _ _=>by kernel_rfl
theorem qDJ:Reads Tryz.prog 35 (fun l:List Outp=>l.length≤maxLen∧∀a∈l,True) (fun l=>[.sl (l.map qbN)]):=qbl Tryz.underlying35 qGd (k:=3) (by kernel_rfl) (by decide) (by kernel_rfl)
theorem qDK:Reads Tryz.prog 37 (fun x:Dred=>x.outs.length≤maxLen) encDred:=
 (qaN Tryz.underlying37 (by kernel_rfl) (qag (k:=1) qxa (by kernel_rfl) rfl (qag (k:=1) qfE (by kernel_rfl) rfl (qag (k:=1) qfE (by kernel_rfl) rfl (qag (k:=1) qfE (by kernel_rfl) rfl (qag (k:=1) qfE (by kernel_rfl) rfl (qag (k:=1) qfE (by kernel_rfl) rfl (qag (k:=1) qfE (by kernel_rfl) rfl (qag (k:=1) qDJ (by kernel_rfl) rfl qbc))))))))).map
  (fun x=>⟨x.1,x.2.1,x.2.2.1,x.2.2.2.1,x.2.2.2.2.1,x.2.2.2.2.2.1,x.2.2.2.2.2.2.1,x.2.2.2.2.2.2.2.1⟩) (fun _ _=>rfl) (fun _ h=>h.2.2.2.2.2.2.2.1.1) fun _ _=>by kernel_rfl
theorem qDL:Reads Tryz.prog 32 (fun l:List Dred=>l.length≤maxLen∧∀a∈l,a.outs.length≤maxLen) (fun l=>[.sl (l.map encDred)]):=qbl Tryz.underlying32 qDK (k:=8) (by kernel_rfl) (by decide) (by kernel_rfl)
structure Wide(s:Site):Prop where
 lv:s.bed.levels.length≤9223372036854775807
 so:s.ground.soils.length≤9223372036854775807
 bo:s.ground.borings.length≤9223372036854775807
 la:∀b∈s.ground.borings,b.layers.length≤9223372036854775807
 zo:s.zones.length≤9223372036854775807
 co:∀z∈s.zones,z.corners.length≤9223372036854775807
 qu:s.quays.length≤9223372036854775807
 ga:s.gauges.length≤9223372036854775807
 ma:∀g∈s.gauges,g.marks.length≤9223372036854775807
 dr:s.dreds.length≤9223372036854775807
 ou:∀d∈s.dreds,d.outs.length≤9223372036854775807
theorem lm{n:Nat}(h:n≤maxLen):n≤9223372036854775807:=Nat.le_trans h (by decide)
theorem qDM:Reads Tryz.prog 34 (fun x:Site=>Wide x) encSite:=
 (qaN Tryz.underlying34 (by kernel_rfl) (qag (k:=6) qzR (by kernel_rfl) rfl (qag (k:=2) qBM (by kernel_rfl) rfl (qag (k:=1) qDF (by kernel_rfl) rfl (qag (k:=1) qDG (by kernel_rfl) rfl (qag (k:=1) qBN (by kernel_rfl) rfl (qag (k:=1) qDL (by kernel_rfl) rfl qbc))))))).map
  (fun x=>⟨x.1,x.2.1,x.2.2.1,x.2.2.2.1,x.2.2.2.2.1,x.2.2.2.2.2.1⟩) (fun _ _=>rfl) (fun _ h=>⟨lm h.1,lm h.2.1.1,lm h.2.1.2.1,fun b hb=>lm (h.2.1.2.2 b hb),lm h.2.2.1.1,fun z hz=>lm (h.2.2.1.2 z hz),lm h.2.2.2.1.1,lm h.2.2.2.2.1.1,fun g hg=>lm (h.2.2.2.2.1.2 g hg),lm h.2.2.2.2.2.1.1,fun d hd=>lm (h.2.2.2.2.2.1.2 d hd)⟩) fun _ _=>by kernel_rfl
theorem qIo:Reads Tryz.prog 51 (fun x:Cut=>True) encCut:=
 (qaN Tryz.underlying51 (by kernel_rfl) (qag (k:=1) qxa (by kernel_rfl) rfl (qag (k:=1) qxa (by kernel_rfl) rfl (qag (k:=1) qfE (by kernel_rfl) rfl (qag (k:=1) qfE (by kernel_rfl) rfl (qag (k:=1) qfE (by kernel_rfl) rfl (qag (k:=1) qfE (by kernel_rfl) rfl (qag (k:=1) qfE (by kernel_rfl) rfl (qag (k:=1) qfE (by kernel_rfl) rfl qbc))))))))).map
  (fun x=>⟨x.1,x.2.1,x.2.2.1,x.2.2.2.1,x.2.2.2.2.1,x.2.2.2.2.2.1,x.2.2.2.2.2.2.1,x.2.2.2.2.2.2.2.1⟩) (fun _ _=>rfl) (fun _ h=>trivial) fun _ _=>by kernel_rfl
theorem qGe:Reads Tryz.prog 38 (fun l:List Cut=>l.length≤maxLen∧∀a∈l,True) (fun l=>[.sl (l.map encCut)]):=qbl Tryz.underlying38 qIo (k:=8) (by kernel_rfl) (by decide) (by kernel_rfl)
end Go.Pv.Soil

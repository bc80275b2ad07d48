import Derived.LoopN
import Derived.Scope
import Derived.Test.YtfklpkgdobdbpaaGreatCAA
/- Part of the proofs over YtfklpkgdobdbpaaGreat: PvU, PvV, PvW, PvWa, PvXa, PvXb, PvX, PvY, PvZ, PwA, PwB, PwC. -/
set_option linter.unusedVariables false
set_option linter.unusedSimpArgs false
set_option linter.unnecessarySimpa false
namespace Go.Pv
def qgg(o:Oper)(j:Nat):Bool:=o.after.any fun e=>Region.binds .any e&&e.on==j
def qfi(f:St→Prop):X→St→Prop
 |.normal,st=>f st
 |_,_=>False
def qcB(o:Op):List Tmp:=o.operands.toList.filterMap fun|.tmp t=>some t|_=>none
def qbp(all:List Oper)(j:Nat):Option Tmp:=(all[j]?).bind (·.dst)
def qFX(all:List Oper)(m i:Nat):Bool:=
 match all[i]? with
 |none=>false
 |some o=>
  qhZ o.op&&(match o.guard with
   |some (j,_)=>decide (j<m)&&qgg o j
   |none=>true)&&
  (List.range m).all fun j=>match qbp all j with
   |none=>true
   |some s=>(!(qcB o.op).contains s||qgg o j)&&(j==i||o.dst !=some s)
def qfI:List Oper→Nat→Bool
 |[],_=>true
 |o::l,i=>(o.after.all fun e=> !Region.binds .any e||decide (e.on<i))&&qfI l (i+1)
def qB6(acc:List Nat)(o:Oper):Nat:=o.after.foldl (fun s e=>if Region.binds .any e then s|||2^e.on|||acc.getD e.on 0 else s) 0
def qnE:List Oper→List Nat→List Nat
 |[],acc=>acc
 |o::l,acc=>qnE l (acc++[qB6 acc o])
def qnF(all:List Oper)(m:Nat):Bool:=
 let ms:=qnE all []
 (List.range all.length).all fun k=>decide (k<m)||ms.getD k 0==2^k-1
def qgh(all:List Oper)(m:Nat):Bool:=decide (m≤all.length)&&qfI all 0&&qnF all m&&(List.range m).all (qFX all m)
inductive TB(all:List Oper):Nat→Nat→Prop
 |step (i:Nat) (o:Oper) (e:Edge) (ho:all[i]? =some o) (he:e∈o.after) (hb:Region.binds .any e=true):TB all e.on i
 |more (i j:Nat) (o:Oper) (e:Edge) (ho:all[i]? =some o) (he:e∈o.after) (hb:Region.binds .any e=true) (h:TB all j e.on):TB all j i
theorem qmF{acc:List Nat}{p:Nat→Edge→Prop}:∀(es:List Edge) (s:Nat) (j:Nat),(es.foldl (fun s e=>if Region.binds .any e then s|||2^e.on|||acc.getD e.on 0 else s) s).testBit j=true→
  s.testBit j=true∨∃e∈es,Region.binds .any e=true∧(e.on=j∨(acc.getD e.on 0).testBit j=true)
 |[],s,j,h=>.inl h
 |e::es,s,j,h=>by
  rw[List.foldl_cons]at h
  rcases qmF (p:=p) es _ j h with h|⟨e',he,h⟩
  ·split at h
   ·rename_i hb
    simp only[Nat.testBit_or,Bool.or_eq_true,Nat.testBit_two_pow]at h
    rcases h with(h|h)|h
    ·exact .inl h
    ·exact .inr ⟨e,by simp,hb,.inl (by simpa using h)⟩
    ·exact .inr ⟨e,by simp,hb,.inr h⟩
   ·exact .inl h
  ·exact .inr ⟨e',by simp[he],h⟩
theorem qiZ{all:List Oper}:∀(l:List Oper) (acc:List Nat),(∀k,l[k]? =all[acc.length+k]?)→
  (∀i j,(acc.getD i 0).testBit j=true→TB all j i)→∀i j,((qnE l acc).getD i 0).testBit j=true→TB all j i
 |[],acc,hl,h,i,j,ht=>h i j ht
 |o::l,acc,hl,h,i,j,ht=>by
  refine qiZ l (acc++[qB6 acc o]) (fun k=>?_) (fun i j ht=>?_) i j ht
  ·have:=hl (k+1)
   simp only[List.getElem?_cons_succ]at this
   rw[this]
   simp[Nat.add_assoc,Nat.add_comm 1 k]
  ·rw[List.getD_eq_getElem?_getD,List.getElem?_append]at ht
   split at ht
   ·exact h i j (by rw[List.getD_eq_getElem?_getD];exact ht)
   ·rename_i hi
    by_cases he:i=acc.length
    ·subst he
     simp only[Nat.sub_self,List.getElem?_cons_zero,Option.getD_some]at ht
     have ho:all[acc.length]? =some o:=by have:=hl 0;simpa using this.symm
     unfold qB6 at ht
     rw[←Array.foldl_toList]at ht
     rcases qmF (p:=fun _ _=>True) o.after.toList 0 j ht with h0|⟨e,he,hb,hj|hj⟩
     ·simp at h0
     ·subst hj
      exact .step _ o e ho (by simpa using he) hb
     ·exact .more _ j o e ho (by simpa using he) hb (h _ _ hj)
    ·rw[List.getElem?_eq_none (by simp;omega)]at ht
     simp at ht
theorem qjC{all:List Oper}{m:Nat}(h:qnF all m=true){k j:Nat}(hm:m≤k)(hk:k<all.length)(hj:j<k):TB all j k:=by
 unfold qnF at h
 simp only[List.all_eq_true,List.mem_range,Bool.or_eq_true,decide_eq_true_eq,beq_iff_eq]at h
 rcases h k hk with h|h
 ·omega
 ·refine qiZ all [] (by simp) (fun i j h=>by simp at h) k j ?_
  rw[h]
  simp[Nat.testBit_two_pow_sub_one,hj]
theorem qcC:∀{l:List Oper} {n:Nat},qfI l n=true→∀{i:Nat} {o:Oper} {e:Edge},l[i]? =some o→e∈o.after→Region.binds .any e=true→e.on<n+i
 |[],n,_,i,o,e,ho,_,_=>by simp at ho
 |o'::l,n,h,i,o,e,ho,he,hb=>by
  simp only[qfI,Bool.and_eq_true]at h
  cases i with
  |zero=>
   simp at ho
   subst ho
   have:=(Array.all_eq_true'.1 h.1) e he
   rw[hb]at this
   simpa using this
  |succ i=>
   have:=qcC h.2 (i:=i) (by simpa using ho) he hb
   omega
theorem qgi{o:Oper}{j:Nat}(h:qgg o j=true):∃e∈o.after,Region.binds .any e=true∧e.on=j:=by
 unfold qgg at h
 obtain⟨i,hi,h⟩:=Array.any_eq_true.1 h
 simp only[Bool.and_eq_true,beq_iff_eq]at h
 exact⟨_,Array.getElem_mem hi,h.1,h.2⟩
section
variable (all:List Oper)(qg6:Env)(hp0:Hp)(dv:Nat→D)(nb:Nat→Hp)
def qc5:Nat→Env
 |0=>qg6
 |i+1=>qdU (qbp all i) (dv i) (qc5 i)
def qeP:Nat→Hp
 |0=>hp0
 |i+1=>nb i++qeP i
end
def Ran(P:Program)(all:List Oper)(o:Oper)(id:Nat)(env:Env)(hp:Nat→Option Blk)(d:D)(nb:Hp):Prop:=
 match o.guard with
 |none=>OpA P (qac env) hp id o.op d nb
 |some (j,want)=>∃r,qdV all env j=some r∧if r=some want then OpA P (qac env) hp id o.op d nb else d=.skip∧nb=[]
section
variable {P:Program}{all:List Oper}{qg6:Env}{hp0:Hp}{dv dv':Nat→D}{nb nb':Nat→Hp}{id0 m:Nat}
theorem qkP:∀{i:Nat},(∀j,j<i→dv j=dv' j)→qc5 all qg6 dv i=qc5 all qg6 dv' i
 |0,_=>rfl
 |i+1,h=>by simp only[qc5];rw[qkP fun j hj=>h j (by omega),h i (by omega)]
theorem qmG:∀{i:Nat},(∀j,j<i→nb j=nb' j)→qeP hp0 nb i=qeP hp0 nb' i
 |0,_=>rfl
 |i+1,h=>by simp only[qeP];rw[qmG fun j hj=>h j (by omega),h i (by omega)]
theorem qgK(dst:Option Tmp)(d:D)(env:Env)(s:Nat):lkE (qdU dst d env) s=if dst=some s then d else lkE env s:=by
 cases dst with
 |none=>simp[qdU]
 |some t=>
  simp only[qdU,lkE]
  by_cases h:s=t
  ·subst h;simp
  ·rw[if_neg h,if_neg (by simpa using Ne.symm h)]
theorem qez{s:Nat}:∀{i:Nat},(∀j,j<i→qbp all j≠some s)→lkE (qc5 all qg6 dv i) s=lkE qg6 s
 |0,_=>rfl
 |i+1,h=>by
  simp only[qc5,qgK]
  rw[if_neg (h i (by omega))]
  exact qez fun j hj=>h j (by omega)
theorem qh0{s j:Nat}(hj:qbp all j=some s):∀{i:Nat},j<i→(∀k,k<i→k≠j→qbp all k≠some s)→lkE (qc5 all qg6 dv i) s=dv j
 |0,h,_=>by omega
 |i+1,h,hd=>by
  simp only[qc5,qgK]
  by_cases he:i=j
  ·subst he;rw[if_pos hj]
  ·rw[if_neg (hd i (by omega) he)]
   exact qh0 hj (by omega) fun k hk=>hd k (by omega)
theorem qvW{ρ:Operand→D}{hp:Nat→Option Blk}{id:Nat}{o:Op}{d:D}{nb:Hp}(h:OpA P ρ hp id o d nb){b:Nat}(hb:(lkH nb b).isSome):id≤b∧b<id+32:=by
 unfold OpA at h
 split at h
 ·obtain⟨g,xs,ys,args',r,hf,hpur,hcon,hown,hw,hd,rfl⟩:=h
  have:=qc4 hb
  omega
 ·rw[h.2]at hb;cases hb
 ·rcases h with⟨_,rfl⟩|⟨ptr,blk,_,_,rfl⟩
  ·cases hb
  ·simp only[lkH]at hb
   split at hb
   ·omega
   ·cases hb
theorem qrX{d:D}{n b:Nat}{blk:Blk}(h:lkH (adC n d).2 b=some blk):blk.flat=true→qan blk.rows=true:=by
 cases d<;>simp only[adC,lkH]at h<;>try cases h
 split at h
 ·injection h with h;subst h;exact id
 ·cases h
theorem qrY:∀{ds:List D} {n b:Nat} {blk:Blk},lkH (adL n ds).2 b=some blk→blk.flat=true→qan blk.rows=true
 |[],n,b,blk,h=>by simp[adL,lkH]at h
 |d::ds,n,b,blk,h=>by
  simp only[adL,qa6,Option.or_eq_some_iff]at h
  rcases h with h|⟨_,h⟩
  ·exact qrX h
  ·exact qrY h
theorem qrZ{d:D}{n b:Nat}{blk:Blk}(h:lkH (adE n d).2 b=some blk):blk.flat=true→qan blk.rows=true:=by
 cases d with
 |agg cs=>exact qrY h
 |_=>exact qrX h
theorem qr0:∀{ds:List D} {n b:Nat} {blk:Blk},lkH (adT n ds).2 b=some blk→blk.flat=true→qan blk.rows=true
 |[],n,b,blk,h=>by simp[adT,lkH]at h
 |d::ds,n,b,blk,h=>by
  simp only[adT,qa6,Option.or_eq_some_iff]at h
  rcases h with h|⟨_,h⟩
  ·exact qrZ h
  ·exact qr0 h
theorem qt4{d:D}{n b:Nat}{blk:Blk}(h:lkH (qaO n d).2 b=some blk):blk.flat=true→qan blk.rows=true:=by
 cases d with
 |tup cs=>exact qr0 h
 |_=>exact qrZ h
theorem qr1{ρ:Operand→D}{hp:Nat→Option Blk}{id:Nat}{o:Op}{d:D}{nb:Hp}(h:OpA P ρ hp id o d nb){b:Nat}{blk:Blk}(hb:lkH nb b=some blk):blk.flat=true→qan blk.rows=true:=by
 unfold OpA at h
 split at h
 ·obtain⟨g,xs,ys,args',r,hf,hpur,hcon,hown,hw,hd,rfl⟩:=h
  exact qt4 hb
 ·rw[h.2]at hb;cases hb
 ·rcases h with⟨_,rfl⟩|⟨ptr,blk,hop,_,rfl⟩
  ·cases hb
  ·simp only[lkH]at hb
   split at hb
   ·injection hb with hb;subst hb;exact qnB hop
   ·cases hb
theorem qkQ{o:Oper}{id:Nat}{env:Env}{hp:Nat→Option Blk}{d:D}{nb:Hp}(h:Ran P all o id env hp d nb):OpA P (qac env) hp id o.op d nb∨nb=[]:=by
 unfold Ran at h
 split at h
 ·exact .inl h
 ·obtain⟨r,_,h⟩:=h
  split at h
  ·exact .inl h
  ·exact .inr h.2
theorem qoX{o:Oper}{id:Nat}{env:Env}{hp:Nat→Option Blk}{d:D}{nb:Hp}(h:Ran P all o id env hp d nb){b:Nat}(hb:(lkH nb b).isSome):id≤b∧b<id+32:=by
 rcases qkQ h with h|rfl
 ·exact qvW h hb
 ·cases hb
structure Trace(P:Program)(all:List Oper)(m:Nat)(qg6:Env)(hp0:Hp)(id0:Nat)(n:Nat)(dv:Nat→D)(nb:Nat→Hp):Prop where
 ran:∀(i:Nat) (o:Oper),i<m→all[i]? =some o→Ran P all o (id0+32*i) (qc5 all qg6 dv i) (lkH (qeP hp0 nb i)) (dv i) (nb i)
 dst:∀(i:Nat),i<m→qak n (qbp all i)=true
theorem qhn{K:X→St→Prop}{n:Nat}(hlen:m≤all.length)(hkind:∀i o,i<m→all[i]? =some o→qhZ o.op=true):∀(r i:Nat) (dv:Nat→D) (nb:Nat→Hp) (st:St),i+r=m→st.env=qc5 all qg6 dv i→st.hp=qeP hp0 nb i→st.n=n→
  (∀(j:Nat) (o:Oper),j<i→all[j]? =some o→Ran P all o (id0+32*j) (qc5 all qg6 dv j) (lkH (qeP hp0 nb j)) (dv j) (nb j))→(∀j,j<i→qak n (qbp all j)=true)→
  qaP P all ((all.drop i).take r) (id0+32*i) st (qfi (K .normal))→
  ∃dv nb,Trace P all m qg6 hp0 id0 n dv nb∧K .normal ⟨qc5 all qg6 dv m,qeP hp0 nb m,id0+32*m,n⟩
 |0,i,dv,nb,st,hi,he,hh,hn,hr,hd,h=>by
  simp only[Nat.add_zero]at hi
  subst hi
  refine⟨dv,nb,⟨hr,hd⟩,?_⟩
  simp only[List.take_zero,qaP]at h
  rw[←he,←hh,←hn]
  exact h
 |r+1,i,dv,nb,st,hi,he,hh,hn,hr,hd,h=>by
  have hlt:i<all.length:=by omega
  have ho:all[i]? =some all[i]:=List.getElem?_eq_getElem hlt
  have hcons:(all.drop i).take (r+1)=all[i]::(all.drop (i+1)).take r:=by
   rw[List.drop_eq_getElem_cons hlt,List.take_succ_cons]
  have hdst:qbp all i=all[i].dst:=by simp[qbp,ho]
  rw[hcons]at h
  have key:∀(d:D) (nbi:Hp),Ran P all all[i] (id0+32*i) st.env (lkH st.hp) d nbi→qak st.n all[i].dst=true→
    qaP P all ((all.drop (i+1)).take r) (id0+32*i+32) {st with env:=qdU all[i].dst d st.env,hp:=nbi++st.hp} (qfi (K .normal))→
    ∃dv nb,Trace P all m qg6 hp0 id0 n dv nb∧K .normal ⟨qc5 all qg6 dv m,qeP hp0 nb m,id0+32*m,n⟩:=by
   intro d nbi h1 h2 h3
   let dv1:Nat→D:=fun j=>if j=i then d else dv j
   let nb1:Nat→Hp:=fun j=>if j=i then nbi else nb j
   have e1:∀k,k≤i→qc5 all qg6 dv1 k=qc5 all qg6 dv k:=fun k hk=>qkP fun j hj=>if_neg (by omega)
   have e2:∀k,k≤i→qeP hp0 nb1 k=qeP hp0 nb k:=fun k hk=>qmG fun j hj=>if_neg (by omega)
   refine qhn hlen hkind r (i+1) dv1 nb1 {st with env:=qdU all[i].dst d st.env,hp:=nbi++st.hp} (by omega) ?_ ?_ hn (fun j o hj hoj=>?_) (fun j hj=>?_) (by rw[show id0+32*(i+1)=id0+32*i+32 by omega];exact h3)
   ·simp only[qc5,e1 i (Nat.le_refl _),hdst,←he]
    simp[dv1]
   ·simp only[qeP,e2 i (Nat.le_refl _),←hh]
    simp[nb1]
   ·by_cases hji:j=i
    ·subst hji
     rw[ho]at hoj
     injection hoj with hoj;subst hoj
     rw[e1 j (Nat.le_refl _),e2 j (Nat.le_refl _),←he,←hh]
     simpa[dv1,nb1]using h1
    ·rw[e1 j (by omega),e2 j (by omega)]
     simpa[dv1,nb1,hji]using hr j o (by omega) hoj
   ·by_cases hji:j=i
    ·subst hji;rw[hdst,←hn];exact h2
    ·exact hd j (by omega)
  have hrun:qap P all[i].op (id0+32*i) all[i].dst st (fun x st'=>match x with
    |.normal=>qaP P all ((all.drop (i+1)).take r) (id0+32*i+32) st' (qfi (K .normal))
    |x=>qfi (K .normal) x st')→
    ∃d nbi,OpA P (qac st.env) (lkH st.hp) (id0+32*i) all[i].op d nbi∧qak st.n all[i].dst=true∧
     qaP P all ((all.drop (i+1)).take r) (id0+32*i+32) {st with env:=qdU all[i].dst d st.env,hp:=nbi++st.hp} (qfi (K .normal)):=by
   intro h
   rcases qEk (hkind i _ (by omega) ho) h with⟨d,nbi,h1,h2,h3⟩|⟨d,h⟩
   ·exact⟨d,nbi,h1,h2,h3⟩
   ·exact h.elim
  unfold qaP at h
  simp only at h
  split at h
  ·rename_i hg
   obtain⟨d,nbi,h1,h2,h3⟩:=hrun h
   exact key d nbi (by unfold Ran;rw[hg];exact h1) h2 h3
  ·rename_i j want hg
   split at h
   ·rename_i b hgd
    by_cases hb:b=want
    ·obtain⟨d,nbi,h1,h2,h3⟩:=hrun (h.1 hb)
     refine key d nbi ?_ h2 h3
     unfold Ran
     rw[hg]
     exact⟨_,hgd,by rw[if_pos (by rw[hb])];exact h1⟩
    ·obtain⟨h1,h2⟩:=h.2 (by cases b<;>cases want<;>simp_all)
     refine key .skip [] ?_ h1 h2
     unfold Ran
     rw[hg]
     exact⟨_,hgd,by rw[if_neg (by simpa using hb)];exact⟨rfl,rfl⟩⟩
   ·rename_i hgd
    obtain⟨h1,h2⟩:=h
    refine key .skip [] ?_ h1 h2
    unfold Ran
    rw[hg]
    exact⟨_,hgd,by rw[if_neg (by simp)];exact⟨rfl,rfl⟩⟩
   ·exact h.elim
end
def G(w0:World)(S:Frm)(all:List Oper)(m id0 n:Nat)(dv:Nat→D)(nb:Nat→Hp)(E:Env)(hp:Nat→Option Blk)(L:Nat→Bool)(a:Act)(w:World):Prop:=
 ∃(pu:Nat→Prop) (ow:Nat→Ow),Mem w0.heap.size w pu ow hp∧
  (∀j s,j<m→L j=true→qbp all j=some s→Rep w pu ow (a.tmps.getD s undef) (dv j))∧
  (∀s,(∀j,j<m→qbp all j≠some s)→Rep w pu ow (a.tmps.getD s undef) (lkE E s))∧
  Below w0.heap.size w0 w∧(∀g,pu g→S g∨w0.heap.size≤g)∧
  (∀j b,j<m→L j=false→(lkH (nb j) b).isSome→ow b=.pending)∧(∀b,id0+32*m≤b→ow b=.pending)∧a.tmps.size=n∧a.defers=S.df∧Kp S w pu ow
structure ChkA(all:List Oper)(m i:Nat)(o:Oper):Prop where
 kind:qhZ o.op=true
 guard:∀j want,o.guard=some (j,want)→j<m∧qgg o j=true
 slot:∀j s,j<m→qbp all j=some s→s∈qcB o.op→qgg o j=true
 dst:∀j s,j<m→j≠i→qbp all j=some s→o.dst≠some s
theorem qoY{all:List Oper}{m i:Nat}(h:qFX all m i=true):∃o,all[i]? =some o∧ChkA all m i o:=by
 unfold qFX at h
 split at h
 ·cases h
 ·rename_i o ho
  simp only[Bool.and_eq_true,List.all_eq_true,List.mem_range]at h
  obtain⟨⟨h1,h2⟩,h3⟩:=h
  refine⟨o,ho,h1,fun j want hg=>?_,fun j s hj hd hs=>?_,fun j s hj hji hd hds=>?_⟩
  ·rw[hg]at h2
   simpa using h2
  ·have:=h3 j hj
   rw[hd]at this
   simp only[Bool.and_eq_true,Bool.or_eq_true,Bool.not_eq_true',List.contains_eq_mem,decide_eq_false_iff_not]at this
   rcases this.1 with h|h
   ·exact(h hs).elim
   ·exact h
  ·have:=h3 j hj
   rw[hd]at this
   simp only[Bool.and_eq_true,Bool.or_eq_true,beq_iff_eq,bne_iff_ne]at this
   rcases this.2 with h|h
   ·exact hji h
   ·exact h hds
theorem qgj(f:Nat→D):∀(sl:List Nat) (s:Nat),lkE (sl.map fun s=>(s,f s)) s=if s∈sl then f s else .undef
 |[],s=>rfl
 |t::sl,s=>by
  simp only[List.map_cons,lkE,List.mem_cons]
  by_cases h:s=t
  ·subst h;simp
  ·rw[if_neg h,qgj f sl s]
   simp[h]
theorem qt5{env:Env}{sl:List Nat}{o:Op}(hs:∀s∈qcB o,s∈sl):∀x∈o.operands,qac env x=qac (sl.map fun s=>(s,lkE env s)) x:=by
 intro x hx
 cases x with
 |tmp t=>
  have:t∈sl:=hs t (by
   unfold qcB
   exact List.mem_filterMap.2 ⟨.tmp t,by simpa using hx,rfl⟩)
  simp only[qac,qgj,if_pos this]
 |_=>rfl
section
variable {P:Program}{w w0:World}{S:Frm}{all:List Oper}{m id0 n:Nat}{dv:Nat→D}{nb:Nat→Hp}{E qg6:Env}{hp:Nat→Option Blk}{L:Nat→Bool}{a:Act}{Q:Exit→Act→World→Prop}
theorem qoZ{env env':Env}{j:Nat}(h:∀s,qbp all j=some s→lkE env s=lkE env' s):qdV all env j=qdV all env' j:=by
 unfold qdV
 unfold qbp at h
 split
 ·rename_i s hs
  rw[h s hs]
 ·rfl
theorem qA5{i:Nat}{o:Oper}{K:Act→World→Prop}(hG:G w0 S all m id0 n dv nb E hp L a w)(ho:all[i]? =some o)(hc:∀i,i<m→∃o,all[i]? =some o∧ChkA all m i o)(hi:i<m)
  (hL:L i=false) (hpre:∀j,qgg o j=true→L j=true∧j<i) (hE:∀s,(∀j,j<m→qbp all j≠some s)→s∈qcB o.op→lkE E s=lkE (qc5 all qg6 dv i) s)
  (hran:Ran P all o (id0+32*i) (qc5 all qg6 dv i) hp (dv i) (nb i)) (hnb:∀b blk,lkH (nb i) b=some blk→hp b=some blk)
  (hdj:∀j,j<m→j≠i→∀b,(lkH (nb j) b).isSome→lkH (nb i) b=none) (hbig:∀b,id0+32*m≤b→lkH (nb i) b=none) (hdst:qak n (qbp all i)=true)
  (hK:∀a' w',G w0 S all m id0 n dv nb E hp (fun j=>if j=i then true else L j) a' w'→K a' w'):wpOp P all.toArray Q i K a w:=by
 obtain⟨pu,ow,hm,c1,c2,hb,hz,hp1,hp2,hs,hd⟩:=hG
 obtain⟨o',ho',hca⟩:=hc i hi
 rw[ho]at ho'
 injection ho' with ho';subst ho'
 have hod:qbp all i=o.dst:=by simp[qbp,ho]
 have uniq:∀j k s,j<m→k<m→k≠j→qbp all j=some s→qbp all k≠some s:=by
  intro j k s hj hk hkj hjs hks
  obtain⟨oj,hoj,hcj⟩:=hc j hj
  exact hcj.dst k s hk hkj hks (by simpa[qbp,hoj]using hjs)
 have key:∀j s,j<m→qgg o j=true→qbp all j=some s→Rep w pu ow (a.tmps.getD s undef) (lkE (qc5 all qg6 dv i) s):=by
  intro j s hj hbj hjs
  obtain⟨h1,h2⟩:=hpre j hbj
  rw[qh0 hjs h2 fun k hk hkj=>uniq j k s hj (by omega) hkj hjs]
  exact c1 j s hj h1 hjs
 let gsl:List Nat:=match o.guard with
  |some (j,_)=>(qbp all j).toList
  |none=>[]
 let E':Env:=(qcB o.op++gsl).map fun s=>(s,lkE (qc5 all qg6 dv i) s)
 have he:qfB w pu ow E' a:=by
  intro s
  simp only[E',qgj]
  split
  ·rename_i hsl
   by_cases hex:∃j,j<m∧qbp all j=some s
   ·obtain⟨j,hj,hjs⟩:=hex
    simp only[List.mem_append]at hsl
    rcases hsl with hsl|hsl
    ·exact key j s hj (hca.slot j s hj hjs hsl) hjs
    ·simp only[gsl]at hsl
     split at hsl
     ·rename_i j' want hg
      obtain⟨h1,h2⟩:=hca.guard j' want hg
      exact key j' s h1 h2 (by simpa using hsl)
     ·simp at hsl
   ·have hno:∀j,j<m→qbp all j≠some s:=fun j hj h=>hex ⟨j,hj,h⟩
    rw[←hE s hno]
    ·exact c2 s hno
    ·simp only[List.mem_append]at hsl
     rcases hsl with hsl|hsl
     ·exact hsl
     ·simp only[gsl]at hsl
      split at hsl
      ·rename_i j' want hg
       obtain⟨h1,h2⟩:=hca.guard j' want hg
       exact(hno j' h1 (by simpa using hsl)).elim
      ·simp at hsl
  ·exact .pure _ _ (.undef _)
 have skip:dv i=.skip→nb i=[]→K (a.put o.dst undef) w:=by
  intro h1 h2
  refine hK _ _ ⟨pu,ow,hm,fun j s hj hLj hjs=>?_,fun s hno=>?_,hb,hz,fun j b hj hLj hbj=>?_,hp2,by rw[qcX];exact hs,by rw[qbZ];exact hd.1,hd.2⟩
  ·by_cases hji:j=i
   ·subst hji
    rw[h1]
    rw[hod]at hjs hdst
    rw[hjs]at hdst ⊢
    simp only[qak,decide_eq_true_eq]at hdst
    rw[qgf (by rw[hs];exact hdst),if_pos rfl]
    exact .pure _ _ .skip
   ·simp only[if_neg hji]at hLj
    have:=c1 j s hj hLj hjs
    cases hdd:o.dst with
    |none=>exact this
    |some t=>
     rw[hod,hdd]at hdst
     simp only[qak,decide_eq_true_eq]at hdst
     rw[qgf (by rw[hs];exact hdst),if_neg]
     ·exact this
     ·rintro rfl
      exact hca.dst j s hj hji hjs hdd
  ·have:=c2 s hno
   cases hdd:o.dst with
   |none=>exact this
   |some t=>
    rw[hod,hdd]at hdst
    simp only[qak,decide_eq_true_eq]at hdst
    rw[qgf (by rw[hs];exact hdst),if_neg]
    ·exact this
    ·rintro rfl
     exact hno i hi (by rw[hod,hdd])
  ·by_cases hji:j=i
   ·subst hji;simp at hLj
   ·simp only[if_neg hji]at hLj
    exact hp1 j b hj hLj hbj
 have run:OpA P (qac (qc5 all qg6 dv i)) hp (id0+32*i) o.op (dv i) (nb i)→o.wp P a w K Q:=by
  intro hop
  have hop':=qnD (hq:=hp) (fun b blk h=>h) (qt5 (sl:=qcB o.op++gsl) (env:=qc5 all qg6 dv i) (fun s hs=>by simp[hs])) hop
  refine qEj (hq:=hp) hm hb.size he.eval hop' (fun b=>?_) (fun b hbs=>hp1 i b hi hL hbs) fun v w' pu' ow' m1 m2 m3 m4 m5 m6=>?_
  ·cases hl:lkH (nb i) b with
   |none=>simp
   |some blk=>rw[hnb b blk hl];simp
  ·refine hK _ _ ⟨pu',ow',m1,fun j s hj hLj hjs=>?_,fun s hno=>?_,hb.trans (m4.mono hb.size),fun g hg=>?_,fun j b hj hLj hbj=>?_,fun b hbb=>?_,by rw[qcX];exact hs,by rw[qbZ];exact hd.1,hd.2.step m2 fun b=>?_⟩
   ·by_cases hji:j=i
    ·subst hji
     rw[hod]at hjs hdst
     rw[hjs]at hdst ⊢
     simp only[qak,decide_eq_true_eq]at hdst
     rw[qgf (by rw[hs];exact hdst),if_pos rfl]
     exact m3
    ·simp only[if_neg hji]at hLj
     have:=(c1 j s hj hLj hjs).mono m2
     cases hdd:o.dst with
     |none=>exact this
     |some t=>
      rw[hod,hdd]at hdst
      simp only[qak,decide_eq_true_eq]at hdst
      rw[qgf (by rw[hs];exact hdst),if_neg]
      ·exact this
      ·rintro rfl
       exact hca.dst j s hj hji hjs hdd
   ·have:=(c2 s hno).mono m2
    cases hdd:o.dst with
    |none=>exact this
    |some t=>
     rw[hod,hdd]at hdst
     simp only[qak,decide_eq_true_eq]at hdst
     rw[qgf (by rw[hs];exact hdst),if_neg]
     ·exact this
     ·rintro rfl
      exact hno i hi (by rw[hod,hdd])
   ·rcases m5 g hg with h|h
    ·exact hz g h
    ·exact .inr (Nat.le_trans hb.size h)
   ·by_cases hji:j=i
    ·subst hji;simp at hLj
    ·simp only[if_neg hji]at hLj
     rw[m6 b (hdj j hj hji b hbj)]
     exact hp1 j b hj hLj hbj
   ·rw[m6 b (hbig b hbb)]
    exact hp2 b hbb
   ·cases hl:lkH (nb i) b with
    |none=>exact .inr (m6 b hl)
    |some blk=>exact .inl (hp1 i b hi hL (by rw[hl];rfl))
 unfold wpOp
 simp only[List.getElem?_toArray,ho]
 unfold Ran at hran
 cases hg:o.guard with
 |none=>
  rw[hg]at hran
  rw[if_pos (by simp[Region.wanted,hg])]
  exact .inl (run hran)
 |some jw=>
  obtain⟨j,want⟩:=jw
  rw[hg]at hran
  simp only at hran
  obtain⟨r,hgd,hran⟩:=hran
  have hgd':qdV all E' j=some r:=by
   rw[←hgd]
   refine qoZ fun s hs=>?_
   simp only[E',qgj]
   rw[if_pos]
   simp only[List.mem_append]
   right
   simp[gsl,hg,hs]
  have hy:=qhY he hgd'
  by_cases hr:r=some want
  ·rw[if_pos hr]at hran
   rw[if_pos (by simp[Region.wanted,hg,hy,hr])]
   exact .inl (run hran)
  ·rw[if_neg hr]at hran
   rw[if_neg (by simpa[Region.wanted,hg,hy]using hr)]
   exact skip hran.1 hran.2
end
def cnt:Nat→(Nat→Bool)→Nat
 |0,_=>0
 |n+1,L=>cnt n L+if L n then 0 else 1
theorem qka:∀{n:Nat} {L:Nat→Bool},cnt n L=0→∀i,i<n→L i=true
 |0,_,_,i,hi=>by omega
 |n+1,L,h,i,hi=>by
  simp only[cnt]at h
  by_cases hL:L n=true
  ·rw[if_pos hL]at h
   rcases Nat.lt_succ_iff_lt_or_eq.1 hi with h'|rfl
   ·exact qka (by omega) i h'
   ·exact hL
  ·rw[if_neg hL]at h;omega
theorem qr2:∀{n:Nat} {L L':Nat→Bool},(∀i,i<n→L i=L' i)→cnt n L=cnt n L'
 |0,_,_,_=>rfl
 |n+1,L,L',h=>by simp only[cnt];rw[qr2 fun i hi=>h i (by omega),h n (by omega)]
theorem qkR:∀{n i:Nat} {L L':Nat→Bool},i<n→L i=false→L' i=true→(∀j,j≠i→L' j=L j)→cnt n L'+1=cnt n L
 |0,i,_,_,h,_,_,_=>by omega
 |n+1,i,L,L',hi,h1,h2,h3=>by
  simp only[cnt]
  by_cases he:i=n
  ·subst he
   rw[h1,h2,qr2 (L:=L') (L':=L) fun j hj=>h3 j (by omega)]
   simp
  ·have:=qkR (n:=n) (by omega) h1 h2 h3
   rw[h3 n (by omega)]
   omega
section
variable {P:Program}{w w0:World}{S:Frm}{all:List Oper}{m id0 n:Nat}{a:Act}{Q:Exit→Act→World→Prop}
def qgk(all:List Oper)(L:Nat→Bool):Prop:=∀i o e,L i=true→all[i]? =some o→e∈o.after→Region.binds .any e=true→L e.on=true
theorem qgk.tb{L:Nat→Bool}(hc:qgk all L){i j:Nat}(h:TB all j i):L i=true→L j=true:=by
 induction h with
 |step i o e ho he hb=>exact fun hi=>hc i o e hi ho he hb
 |more i j o e ho he hb _ ih=>exact fun hi=>ih (hc i o e hi ho he hb)
theorem qnG{L:Nat→Bool}(hc:qgk all L){i j:Nat}{o:Oper}(ho:all[i]? =some o)(hr:∀e∈o.after,Region.binds .any e=true→L e.on=true)(h:TB all j i):L j=true:=by
 cases h with
 |step i o' e ho' he hb=>rw[ho]at ho';injection ho' with ho';subst ho';exact hr e he hb
 |more i j o' e ho' he hb h=>rw[ho]at ho';injection ho' with ho';subst ho';exact hc.tb h (hr e he hb)
theorem qeA{listed:Array Bool}{i:Nat}:i∈Region.ready .any all.toArray listed↔i<all.length∧listed.getD i true=false∧∃o,all[i]? =some o∧∀e∈o.after,Region.binds .any e=true→listed.getD e.on false=true:=by
 unfold Region.ready
 simp only[List.mem_filter,List.mem_range,Bool.and_eq_true,Bool.not_eq_true',List.getElem?_toArray,List.size_toArray]
 constructor
 ·rintro⟨h1,h2,h3⟩
  refine⟨h1,h2,all[i],List.getElem?_eq_getElem h1,fun e he hb=>?_⟩
  rw[List.getElem?_eq_getElem h1]at h3
  simp only[Option.map_some,Option.getD_some]at h3
  have:=(Array.all_eq_true'.1 h3) e he
  rw[hb]at this
  simpa using this
 ·rintro⟨h1,h2,o,ho,h3⟩
  refine⟨h1,h2,?_⟩
  rw[ho]
  simp only[Option.map_some,Option.getD_some]
  refine Array.all_eq_true'.2 fun e he=>?_
  cases hb:Region.binds .any e with
  |false=>rfl
  |true=>rw[h3 e he hb];rfl
theorem qho{listed:Array Bool}{i:Nat}(hi:i<listed.size):listed.getD i true=listed.getD i false:=by
 simp[Array.getD_eq_getD_getElem?,hi]
theorem qaU{listed:Array Bool}{i j:Nat}(hi:i<listed.size):(listed.setIfInBounds i true).getD j false=if j=i then true else listed.getD j false:=by
 simp only[Array.getD_eq_getD_getElem?,Array.getElem?_setIfInBounds]
 by_cases h:i=j
 ·subst h;simp[hi]
 ·rw[if_neg h,if_neg (Ne.symm h)]
theorem qh1{listed:Array Bool}(hs:listed.size=all.length)(hb:qfI all 0=true)(hr:Region.ready .any all.toArray listed=[]):∀i,i<all.length→listed.getD i false=true:=by
 intro i
 induction i using Nat.strongRecOn with
 |ind i ih=>
  intro hi
  cases hl:listed.getD i false with
  |true=>rfl
  |false=>
   have:i∈Region.ready .any all.toArray listed:=qeA.2 ⟨hi,by rw[qho (by omega)];exact hl,all[i],List.getElem?_eq_getElem hi,fun e he hbe=>by
    have hlt:=qcC hb (List.getElem?_eq_getElem hi) he hbe
    exact ih e.on (by omega) (by omega)⟩
   rw[hr]at this
   simp at this
theorem qnH(hb:qfI all 0=true)(hl:qnF all m=true):∀(rest:List Oper) (k fuel:Nat) (listed:Array Bool) (a:Act) (w:World),all.drop k=rest→m≤k→k≤all.length→listed.size=all.length→
  (∀i,i<k→listed.getD i false=true)→(∀i,k≤i→i<all.length→listed.getD i false=false)→rest.length≤fuel→wpList P all.toArray Q rest a w→wpAny P .any all.toArray Q fuel listed a w:=by
 intro rest
 induction rest with
 |nil=>
  intro k fuel listed a w hd hm hk hs h1 h2 hf h
  have hkl:all.length≤k:=by
   have:=congrArg List.length hd
   simp at this
   omega
  have hr:Region.ready .any all.toArray listed=[]:=List.eq_nil_iff_forall_not_mem.2 fun i hi=>by
   obtain⟨h3,h4,_⟩:=qeA.1 hi
   rw[qho (by omega),h1 i (by omega)]at h4
   cases h4
  cases fuel with
  |zero=>exact⟨hr,h⟩
  |succ fuel=>exact⟨fun _=>h,fun i hi=>by rw[hr]at hi;simp at hi⟩
 |cons o rest ih=>
  intro k fuel listed a w hd hm hk hs h1 h2 hf h
  cases fuel with
  |zero=>simp at hf
  |succ fuel=>
   have hklt:k<all.length:=by
    have:=congrArg List.length hd
    simp at this
    omega
   rw[List.drop_eq_getElem_cons hklt]at hd
   injection hd with hd1 hd2
   have hok:all[k]? =some o:=by rw[List.getElem?_eq_getElem hklt,hd1]
   refine⟨fun hr=>?_,fun i hi=>?_⟩
   ·have:=qh1 hs hb hr k hklt
    rw[h2 k (Nat.le_refl _) hklt]at this
    cases this
   ·obtain⟨h3,h4,o',ho',h5⟩:=qeA.1 hi
    rw[qho (by omega)]at h4
    have hik:i=k:=by
     rcases Nat.lt_trichotomy i k with h|h|h
     ·rw[h1 i h]at h4;cases h4
     ·exact h
     ·have htb:=qjC hl (k:=i) (j:=k) (by omega) h3 h
      have:listed.getD k false=true:=by
       cases htb with
       |step _ o2 e ho2 he hbe=>rw[ho']at ho2;injection ho2 with ho2;subst ho2;exact h5 e he hbe
       |more _ _ o2 e ho2 he hbe h6=>
        rw[ho']at ho2;injection ho2 with ho2;subst ho2
        have h7:=h5 e he hbe
        have h8:=qcC hb ho' he hbe
        rcases Nat.lt_or_ge e.on k with h9|h9
        ·exfalso
         have:∀{a b:Nat},TB all a b→a<b:=by
          intro a b hab
          induction hab with
          |step i o e ho he hbe=>have:=qcC hb ho he hbe;omega
          |more i j o e ho he hbe _ ih=>have:=qcC hb ho he hbe;omega
         have:=this h6
         omega
        ·rw[h2 e.on h9 (by omega)]at h7;cases h7
      rw[h2 k (Nat.le_refl _) hklt]at this
      cases this
    subst hik
    rw[hok]at ho'
    injection ho' with ho';subst ho'
    have next:∀a w,wpList P all.toArray Q rest a w→wpAny P .any all.toArray Q fuel (listed.setIfInBounds i true) a w:=fun a w h=>
     ih (i+1) fuel _ a w hd2 (by omega) (by omega) (by simpa using hs) (fun j hj=>by rw[qaU (by omega)];split;rfl;exact h1 j (by omega))
      (fun j hj hj'=>by rw[qaU (by omega),if_neg (by omega)];exact h2 j (by omega) hj') (by simp at hf;omega) h
    unfold wpList at h
    unfold wpOp
    simp only[List.getElem?_toArray,hok]
    split at h
    ·rename_i hw
     rw[if_pos hw]
     exact h.imp (Oper.wp_mono next) id
    ·rename_i hw
     rw[if_neg hw]
     exact next _ _ h
theorem qh2{hp0:Hp}{nb:Nat→Hp}{b:Nat}:∀{i:Nat},(lkH (qeP hp0 nb i) b).isSome→(lkH hp0 b).isSome∨∃j,j<i∧(lkH (nb j) b).isSome
 |0,h=>.inl h
 |i+1,h=>by
  simp only[qeP,qa6]at h
  cases hn:lkH (nb i) b with
  |some blk=>exact .inr ⟨i,by omega,by rw[hn];rfl⟩
  |none=>
   rw[hn]at h
   rcases qh2 (i:=i) (by simpa using h)with h|⟨j,hj,h⟩
   ·exact .inl h
   ·exact .inr ⟨j,by omega,h⟩
theorem qe4:∀{hp:Hp} {b:Nat},(lkH hp b).isSome→∃x∈hp,x.1=b
 |[],b,h=>by simp[lkH]at h
 |(k,d)::hp,b,h=>by
  simp only[lkH]at h
  split at h
  ·rename_i hb;exact⟨(k,d),by simp,hb.symm⟩
  ·obtain⟨x,hx,h⟩:=qe4 h
   exact⟨x,by simp[hx],h⟩
theorem Mem.addPends{pu:Nat→Prop}{ow:Nat→Ow}{base:Nat}{hp hq:Nat→Option Blk}(hm:Mem base w pu ow hp)(h1:∀b blk,hp b=some blk→hq b=some blk)
  (h2:∀b blk,hq b=some blk→hp b=Option.none→ow b=.pending∧(blk.flat=true→qan blk.rows=true)):Mem base w pu ow hq:=by
 refine⟨fun b blk hb=>?_,fun b hb=>?_,hm.injO,hm.ownO,hm.zone⟩
 ·cases hpb:hp b with
  |some blk'=>
   have:=h1 b blk' hpb
   rw[hb]at this
   injection this with this;subst this
   exact hm.blk b _ hpb
  |none=>
   obtain⟨h3,h4⟩:=h2 b blk hb hpb
   rw[h3]
   exact⟨h4,trivial⟩
 ·cases hpb:hp b with
  |some blk'=>rw[h1 b blk' hpb]at hb;cases hb
  |none=>exact hm.none b hpb
def qA6(P:Program)(all:List Oper)(m:Nat)(st:St)(K:X→St→Prop):Prop:=
 (st.hp.all fun x=>decide (x.1<st.nx))=true∧
 qaP P all (all.take m) st.nx st (qfi fun st'=>qaP P all (all.drop m) st'.nx st' K)
theorem qvX{st:St}{K:X→St→Prop}(hNA:S.free∨∀o∈all,qg2 o.op=true)(hc:qgh all m=true)(hi:qcb w0 S st.nx st a w)(h:qA6 P all m st K):wpAny P .any all.toArray (qmd w0 S K) all.length (Array.replicate all.length false) a w:=by
 unfold qgh at hc
 simp only[Bool.and_eq_true,decide_eq_true_eq,List.all_eq_true,List.mem_range]at hc
 obtain⟨⟨⟨hm,hback⟩,hline⟩,hA⟩:=hc
 have hA':∀i,i<m→∃o,all[i]? =some o∧ChkA all m i o:=fun i hi=>qoY (hA i hi)
 obtain⟨hdom,h⟩:=h
 simp only[List.all_eq_true,decide_eq_true_eq]at hdom
 have hkind:∀i o,i<m→all[i]? =some o→qhZ o.op=true:=fun i o hi ho=>by
  obtain⟨o',ho',hc⟩:=hA' i hi
  rw[ho]at ho';injection ho' with ho';subst ho'
  exact hc.kind
 obtain⟨dv,nb,htr,hK⟩:=qhn (P:=P) (all:=all) (qg6:=st.env) (hp0:=st.hp) (id0:=st.nx) (m:=m) (K:=fun _ st'=>qaP P all (all.drop m) st'.nx st' K) hm hkind m 0 (fun _=>.undef) (fun _=>[]) st (by omega) rfl rfl rfl
  (fun j o hj=>by omega) (fun j hj=>by omega) (by simpa using h)
 simp only at hK
 have hrange:∀j b,j<m→(lkH (nb j) b).isSome→st.nx+32*j≤b∧b<st.nx+32*j+32:=fun j b hj hb=>by
  obtain⟨o,ho,_⟩:=hA' j hj
  exact qoX (htr.ran j o hj ho) hb
 have hhp0:∀b,(lkH st.hp b).isSome→b<st.nx:=fun b hb=>by
  obtain⟨x,hx,rfl⟩:=qe4 hb
  exact hdom x hx
 have hlt:∀i b,i≤m→(lkH (qeP st.hp nb i) b).isSome→b<st.nx+32*i:=fun i b hi hb=>by
  rcases qh2 hb with h|⟨j,hj,h⟩
  ·have:=hhp0 b h;omega
  ·have:=hrange j b (by omega) h;omega
 have hsub1:∀i,i<m→Sub (lkH (qeP st.hp nb i)) (lkH (qeP st.hp nb (i+1))):=fun i hi b blk hb=>by
  have h1:=hlt i b (by omega) (by rw[hb];rfl)
  simp only[qeP,qa6]
  cases hn:lkH (nb i) b with
  |some blk'=>
   have:=hrange i b hi (by rw[hn];rfl)
   omega
  |none=>simpa using hb
 have hsub:∀d i,i+d=m→Sub (lkH (qeP st.hp nb i)) (lkH (qeP st.hp nb m)):=by
  intro d
  induction d with
  |zero=>intro i hi;rw[show i=m by omega];exact fun b blk h=>h
  |succ d ih=>intro i hi b blk hb;exact ih (i+1) (by omega) b blk (hsub1 i (by omega) b blk hb)
 have hnbA:∀i,i<m→∀b blk,lkH (nb i) b=some blk→lkH (qeP st.hp nb m) b=some blk:=fun i hi b blk hb=>
  hsub (m-(i+1)) (i+1) (by omega) b blk (by simp only[qeP,qa6,hb];rfl)
 have hflat:∀i,i<m→∀b blk,lkH (nb i) b=some blk→blk.flat=true→qan blk.rows=true:=fun i hi b blk hb=>by
  obtain⟨o,ho,_⟩:=hA' i hi
  rcases qkQ (htr.ran i o hi ho)with h|h
  ·exact qr1 h hb
  ·rw[h]at hb;cases hb
 have hran:∀i o,i<m→all[i]? =some o→Ran P all o (st.nx+32*i) (qc5 all st.env dv i) (lkH (qeP st.hp nb m)) (dv i) (nb i):=fun i o hi ho=>by
  have:=htr.ran i o hi ho
  unfold Ran at this ⊢
  have hmono:= @qnD P (qac (qc5 all st.env dv i)) (qac (qc5 all st.env dv i)) _ _ (st.nx+32*i) o.op (dv i) (nb i) (hsub (m-i) i (by omega)) (fun _ _=>rfl)
  split at this
  ·exact hmono this
  ·obtain⟨r,h1,h2⟩:=this
   refine⟨r,h1,?_⟩
   split at h2
   ·rename_i hr;rw[if_pos hr];exact hmono h2
   ·rename_i hr;rw[if_neg hr];exact h2
 have hdisj:∀i,i<m→∀j,j<m→j≠i→∀b,(lkH (nb j) b).isSome→lkH (nb i) b=none:=fun i hi j hj hji b hb=>by
  cases hn:lkH (nb i) b with
  |none=>rfl
  |some blk=>
   have h1:=hrange i b hi (by rw[hn];rfl)
   have h2:=hrange j b hj hb
   omega
 have hbig:∀i,i<m→∀b,st.nx+32*m≤b→lkH (nb i) b=none:=fun i hi b hb=>by
  cases hn:lkH (nb i) b with
  |none=>rfl
  |some blk=>have h1:=hrange i b hi (by rw[hn];rfl);omega
 have uniq:∀j k s,j<m→k<m→k≠j→qbp all j=some s→qbp all k≠some s:=by
  intro j k s hj hk hkj hjs hks
  obtain⟨oj,hoj,hcj⟩:=hA' j hj
  exact hcj.dst k s hk hkj hks (by simpa[qbp,hoj]using hjs)
 have hG0:G w0 S all m st.nx st.n dv nb st.env (lkH (qeP st.hp nb m)) (fun _=>false) a w:=by
  obtain⟨pu,ow,m1,m2,m3,m4,m5,m6,m7⟩:=hi
  refine⟨pu,ow,m1.addPends (fun b blk hb=>hsub m 0 (by omega) b blk hb) (fun b blk hb hb0=>?_),(fun j s _ h=>Bool.noConfusion h),fun s _=>m2 s,m3,m4,fun j b hj _ hb=>m5 b ?_,fun b hb=>m5 b (by omega),m6,m7⟩
  ·rcases qh2 (by rw[hb];rfl:(lkH (qeP st.hp nb m) b).isSome)with h|⟨j,hj,h⟩
   ·rw[hb0]at h;cases h
   ·have h1:=hrange j b hj h
    obtain⟨blk',hb'⟩:=Option.isSome_iff_exists.1 h
    have:=hnbA j hj b blk' hb'
    rw[hb]at this
    injection this with this;subst this
    exact⟨m5 b (by omega),hflat j hj b blk hb'⟩
  ·have h1:=hrange j b hj hb;omega
 have finish:∀(fuel:Nat) (listed:Array Bool) (a:Act) (w:World),listed.size=all.length→cnt all.length (fun i=>listed.getD i false)≤fuel→(∀i,i<m→listed.getD i false=true)→
   (∀i,m≤i→i<all.length→listed.getD i false=false)→G w0 S all m st.nx st.n dv nb st.env (lkH (qeP st.hp nb m)) (fun i=>listed.getD i false) a w→wpAny P .any all.toArray (qmd w0 S K) fuel listed a w:=by
  intro fuel listed a w hs hcnt hall hB ⟨pu,ow,g1,g2,g3,g4,g5,g6,g7,g8,g9⟩
  refine qnH hback hline (all.drop m) m fuel listed a w rfl (Nat.le_refl _) hm hs hall hB ?_ (qgJ (all.drop m) _ ⟨qc5 all st.env dv m,qeP st.hp nb m,st.nx+32*m,st.n⟩ a w (hNA.imp (fun h=>h) fun h o ho=>h o (List.mem_of_mem_drop ho)) ⟨pu,ow,g1,fun s=>?_,g4,g5,fun b hb=>g7 b hb,g8,g9⟩ hK)
  ·have:∀d,m+d≤all.length→d≤cnt (m+d) (fun i=>listed.getD i false):=by
    intro d
    induction d with
    |zero=>intro _;omega
    |succ d ih=>
     intro hd
     have:=ih (by omega)
     have hstep:cnt (m+(d+1)) (fun i=>listed.getD i false)=cnt (m+d) (fun i=>listed.getD i false)+1:=by
      show cnt (m+d) _+(if listed.getD (m+d) false=true then 0 else 1)=_
      rw[hB (m+d) (by omega) (by omega)]
      rfl
     omega
   have h1:=this (all.length-m) (by omega)
   rw[show m+(all.length-m)=all.length by omega]at h1
   simp
   omega
  ·by_cases hex:∃j,j<m∧qbp all j=some s
   ·obtain⟨j,hj,hjs⟩:=hex
    simp only
    rw[qh0 hjs hj fun k hk hkj=>uniq j k s hj hk hkj hjs]
    exact g2 j s hj (hall j hj) hjs
   ·have hno:∀j,j<m→qbp all j≠some s:=fun j hj h=>hex ⟨j,hj,h⟩
    simp only
    rw[qez hno]
    exact g3 s hno
 suffices H:∀(fuel:Nat) (listed:Array Bool) (a:Act) (w:World),listed.size=all.length→cnt all.length (fun i=>listed.getD i false)≤fuel→qgk all (fun i=>listed.getD i false)→
   (∀i,m≤i→i<all.length→listed.getD i false=false)→G w0 S all m st.nx st.n dv nb st.env (lkH (qeP st.hp nb m)) (fun i=>listed.getD i false) a w→wpAny P .any all.toArray (qmd w0 S K) fuel listed a w by
  refine H _ _ a w (by simp) ?_ ?_ ?_ ?_
  ·have:∀n (L:Nat→Bool),cnt n L≤n:=by
    intro n L
    induction n with
    |zero=>simp[cnt]
    |succ n ih=>simp only[cnt];split<;>omega
   exact this _ _
  ·intro i o e h
   simp only[Array.getD_eq_getD_getElem?,Array.getElem?_replicate]at h
   split at h<;>cases h
  ·intro i _ _
   simp only[Array.getD_eq_getD_getElem?,Array.getElem?_replicate]
   split<;>rfl
  ·have:(fun i=>(Array.replicate all.length false).getD i false)=fun _=>false:=by
    funext i
    simp only[Array.getD_eq_getD_getElem?,Array.getElem?_replicate]
    split<;>rfl
   rw[this]
   exact hG0
 intro fuel
 induction fuel with
 |zero=>
  intro listed a w hs hcnt hcl hB hG
  exact finish 0 listed a w hs hcnt (fun i hi=>qka (n:=all.length) (L:=fun i=>listed.getD i false) (by omega) i (by omega)) hB hG
 |succ fuel ih=>
  intro listed a w hs hcnt hcl hB hG
  by_cases hall:∀i,i<m→listed.getD i false=true
  ·exact finish _ listed a w hs hcnt hall hB hG
  ·refine⟨fun hr=>(hall fun i hi=>qh1 hs hback hr i (by omega)).elim,fun i hi=>?_⟩
   obtain⟨h1,h2,o,ho,h3⟩:=qeA.1 hi
   rw[qho (by omega)]at h2
   have him:i<m:=by
    rcases Nat.lt_or_ge i m with h|h
    ·exact h
    ·exact(hall fun j hj=>qnG hcl ho h3 (qjC hline h h1 (by omega))).elim
   refine qA5 (qg6:=st.env) (hp:=lkH (qeP st.hp nb m)) (L:=fun i=>listed.getD i false) hG ho hA' him h2 (fun j hb=>?_) (fun s hno _=>(qez fun j hj=>hno j (by omega)).symm) (hran i o him ho) (hnbA i him) (hdisj i him) (hbig i him) (htr.dst i him) fun a' w' hG'=>?_
   ·obtain⟨e,he,hbe,rfl⟩:=qgi hb
    exact⟨h3 e he hbe,by have:=qcC hback ho he hbe;omega⟩
   ·have hset:(fun j=>(listed.setIfInBounds i true).getD j false)=fun j=>if j=i then true else listed.getD j false:=funext fun j=>qaU (by omega)
    refine ih _ a' w' (by simpa using hs) ?_ ?_ ?_ ?_
    ·have:=qkR (n:=all.length) (L:=fun j=>listed.getD j false) (L':=fun j=>(listed.setIfInBounds i true).getD j false) h1 h2 (by simp only[qaU (listed:=listed) (i:=i) (by omega:i<listed.size),if_pos]) (fun j hj=>by simp only[qaU (listed:=listed) (i:=i) (by omega:i<listed.size),if_neg hj])
     omega
    ·intro j oj e hj hoj he hbe
     rw[hset]at hj ⊢
     simp only at hj ⊢
     split
     ·rfl
     ·split at hj
      ·rename_i hji
       subst hji
       rw[ho]at hoj
       injection hoj with hoj;subst hoj
       exact h3 e he hbe
      ·exact hcl j oj e hj hoj he hbe
    ·intro j hj hj'
     rw[qaU (by omega),if_neg (by omega)]
     exact hB j hj hj'
    ·rw[hset]
     exact hG'
end
def qvY(st:St):X→St→Prop:=fun x st'=>x=.normal∧st'.hp=st.hp∧st'.n=st.n∧∀s,lkE st'.env s=lkE st.env s
def qt6(P:Program)(all:List Oper)(st:St)(j:Nat):Prop:=
 match all[j]? with
 |some o=>∀id,qap P o.op id o.dst st (qvY st)
 |none=>False
def qbP(P:Program)(all:List Oper)(st:St):List Nat→Prop
 |[]=>True
 |j::l=>qt6 P all st j∧qbP P all st l
def qdw(P:Program)(all:List Oper)(m:Nat):List Oper→List (List Nat)→Nat→St→(X→St→Prop)→Prop
 |[],[],id,st,K=>K .normal {st with nx:=id}
 |o::rest,z::zs,id,st,K=>qap P o.op id o.dst st (qfi fun st'=>qbP P all st' z∧qdw P all m rest zs (id+32+32*m) st' K)
 |_,_,_,_,_=>False
def qB7(P:Program)(all:List Oper)(m:Nat)(zs:List (List Nat))(st:St)(K:X→St→Prop):Prop:=
 (st.hp.all fun x=>decide (x.1<st.nx))=true∧
 qaP P all (all.take m) st.nx st (qfi fun st'=>qdw P all m (all.drop m) zs st'.nx st' K)
def qqM(all:List Oper)(m:Nat)(o:Oper)(j:Nat):Bool:=
 decide (j<m)&&match all[j]? with
 |some oj=>oj.guard.isNone&&(match oj.dst with
  |some s=> !(qcB o.op).contains s&&o.dst !=some s
  |none=>true)&&(match o.dst with
  |some t=> !(qcB oj.op).contains t
  |none=>true)
 |none=>false
def qvZ(l:List Nat):Nat:=l.foldl (fun s j=>s|||2^j) 0
def qeV(all:List Oper)(m:Nat)(ms:List Nat):Nat→List Oper→List (List Nat)→Bool
 |_,[],[]=>true
 |k,o::rest,z::zs=>(ms.getD k 0|||qvZ z==2^k-1)&&o.guard.isNone&&z.all (qqM all m o)&&qeV all m ms (k+1) rest zs
 |_,_,_=>false
def qeW(all:List Oper)(m:Nat)(zs:List (List Nat)):Bool:=decide (m≤all.length)&&qfI all 0&&qeV all m (qnE all []) m (all.drop m) zs&&(List.range m).all (qFX all m)
theorem qr3:∀{l:List Nat} {s j:Nat},(l.foldl (fun s j=>s|||2^j) s).testBit j=true→s.testBit j=true∨j∈l
 |[],s,j,h=>.inl h
 |i::l,s,j,h=>by
  rw[List.foldl_cons]at h
  rcases qr3 h with h|h
  ·simp only[Nat.testBit_or,Bool.or_eq_true,Nat.testBit_two_pow]at h
   rcases h with h|h
   ·exact .inl h
   ·exact .inr (by simp only[decide_eq_true_eq]at h;subst h;exact List.mem_cons_self)
  ·exact .inr (List.mem_cons_of_mem _ h)
section
variable {P:Program}{w w0:World}{S:Frm}{all:List Oper}{m id0 n:Nat}{a:Act}{Q:Exit→Act→World→Prop}
theorem qmH{ms:List Nat}{k j:Nat}{z:List Nat}(hms:∀i j,(ms.getD i 0).testBit j=true→TB all j i)(h:(ms.getD k 0|||qvZ z==2^k-1)=true)(hj:j<k):TB all j k∨j∈z:=by
 have h1:(ms.getD k 0|||qvZ z).testBit j=true:=by
  rw[beq_iff_eq.1 h]
  simp[Nat.testBit_two_pow_sub_one,hj]
 simp only[Nat.testBit_or,Bool.or_eq_true]at h1
 rcases h1 with h1|h1
 ·exact .inl (hms k j h1)
 ·rcases qr3 h1 with h2|h2
  ·simp at h2
  ·exact .inr h2
theorem qr4(all:List Oper):∀i j,((qnE all []).getD i 0).testBit j=true→TB all j i:=fun i j h=>qiZ all [] (by simp) (fun i j h=>by simp at h) i j h
theorem qi0{b:Nat}:∀{env:Env} {s:Nat},lkE (qfZ b env) s=pd b (lkE env s)
 |[],s=>rfl
 |(t,d)::env,s=>by
  show(if s=t then pd b d else lkE (qfZ b env) s)=_
  simp only[lkE]
  split
  ·rfl
  ·exact qi0
theorem qkS{o:Op}{hp:Nat→Option Blk}{ρ ρ':Operand→D}(h:∀x∈o.operands,ρ x=ρ' x){bs:List Bool}(hb:qmb P ρ hp o=some bs):qmb P ρ' hp o=some bs:=by
 unfold qmb at hb
 split at hb
 ·rename_i op t x t'
  have hx:=h x (by simp[Op.operands])
  show qFW P hp op t (ρ' x)=some bs
  rw[←hx]
  exact hb
 ·cases hb
theorem qt7{ρ ρ':Operand→D}{hp:Nat→Option Blk}{o:Op}(h:∀x∈o.operands,ρ x=ρ' x):qmb P ρ hp o=qmb P ρ' hp o:=by
 cases h1:qmb P ρ hp o with
 |some bs=>exact(qkS h h1).symm
 |none=>
  cases h2:qmb P ρ' hp o with
  |some bs=>rw[qkS (fun x hx=>(h x hx).symm) h2]at h1;cases h1
  |none=>rfl
theorem qi1{A:Nat→Prop}{E E2:Env}{hp:Hp}{nx:Nat}{K:X→St→Prop}{o:Op}{id:Nat}{dst:Option Tmp}(hA:∀s,A s→lkE E2 s=lkE E s)(ho:∀s∈qcB o,A s)(h:qap P o id dst ⟨E,hp,nx,n⟩ K):
  qap P o id dst ⟨E2,hp,nx,n⟩ fun x st2=>∃E',K x ⟨E',st2.hp,st2.nx,st2.n⟩∧(x=.normal→∀s,(A s∨dst=some s)→lkE st2.env s=lkE E' s):=by
 have hρ:∀x∈o.operands,qac E x=qac E2 x:=by
  intro x hx
  cases x with
  |tmp t=>exact(hA t (ho t (List.mem_filterMap.2 ⟨.tmp t,by simpa using hx,rfl⟩))).symm
  |_=>rfl
 have step:∀{d:D} {F F2:Env} {hp':Hp},(∀s,A s→lkE F2 s=lkE F s)→qcJ ⟨E,hp,nx,n⟩ dst d F hp' K→
   qcJ ⟨E2,hp,nx,n⟩ dst d F2 hp' fun x st2=>∃E',K x ⟨E',st2.hp,st2.nx,st2.n⟩∧(x=.normal→∀s,(A s∨dst=some s)→lkE st2.env s=lkE E' s):=by
  intro d F F2 hp' hF ⟨h1,h2⟩
  refine⟨h1,qdU dst d F,h2,fun _ s hs=>?_⟩
  simp only[qgK]
  split
  ·rfl
  ·rename_i hne
   rcases hs with hs|hs
   ·exact hF s hs
   ·exact(hne hs).elim
 unfold qap at h ⊢
 split at h
 ·rename_i op t x y
  have hx:=hρ x (by simp[Op.operands])
  have hy:=hρ y (by simp[Op.operands])
  dsimp only at h ⊢
  rw[←hx,←hy]
  split at h
  ·exact step hA h
  ·exact h.elim
 ·rename_i f args ts
  have hf:=hρ f (by simp[Op.operands,Call.operands])
  have hargs:args.toList.map (qac E)=args.toList.map (qac E2):=qnC fun x hx=>hρ x (by simp[Op.operands,Call.operands,hx])
  dsimp only at h ⊢
  rw[←hf,←hargs]
  unfold qf1 at h ⊢
  split at h
  ·obtain⟨args',out,h1,h2,h3,h4⟩:=h
   refine⟨args',out,h1,h2,h3,?_⟩
   cases out with
   |ret r=>exact⟨h4.1,step hA h4.2⟩
   |pan d=>exact⟨E,h4,fun hx=>by cases hx⟩
  ·exact h.elim
 ·rename_i args ts
  dsimp only at h ⊢
  split at h
  ·rename_i s x t t' hargs hts
   have hs:=hρ s (by simp[Op.operands,Call.operands];rw[←Array.mem_toList_iff,hargs];simp)
   have hx:=hρ x (by simp[Op.operands,Call.operands];rw[←Array.mem_toList_iff,hargs];simp)
   rw[←hs,←hx]
   split at h
   ·rename_i htt
    rw[if_pos htt]
    split at h
    ·exact step hA h
    ·exact step (fun s hs=>by rw[qi0,qi0,hA s hs]) h
    ·exact h.elim
   ·exact h.elim
  ·exact h.elim
 ·rename_i t parts
  dsimp only at h ⊢
  rw[←qkO (ρ:=qac E) (ρ':=qac E2) fun x hx=>hρ x (by simpa[Op.operands]using hx)]
  split at h
  ·rename_i h1;simp only[h1];exact step hA h
  ·exact h.elim
 ·dsimp only at h ⊢
  rw[←qoV (P:=P) (hp:=lkH hp) hρ,←qoW (P:=P) hρ]
  rw[←qt7 (P:=P) (hp:=lkH hp) hρ]
  split at h
  ·exact step hA h
  ·split at h
   ·exact step hA h
   ·split at h
    ·exact fun b hb=>step hA (h b hb)
    ·unfold qqL at h ⊢
     split at h
     ·obtain⟨t,d,h1,h2,h3⟩:=h
      exact⟨t,d,(hρ _ (by simp[Op.operands])).symm.trans h1,h2,E,h3,fun hx=>by cases hx⟩
     ·exact h.elim
theorem qjD{st:St}:∀{z:List Nat},qbP P all st z→∀j∈z,qt6 P all st j
 |[],_,j,hj=>by simp at hj
 |i::z,h,j,hj=>by
  rcases List.mem_cons.1 hj with rfl|hj
  ·exact h.1
  ·exact qjD h.2 j hj
theorem qcb.up{id id':Nat}{st:St}{a:Act}(hi:qcb w0 S id st a w)(h:id≤id'):qcb w0 S id' st a w:=by
 obtain⟨pu,ow,m1,m2,m3,m4,m5,m6,m7⟩:=hi
 exact⟨pu,ow,m1,m2,m3,m4,fun b hb=>m5 b (by omega),m6,m7⟩
theorem qcb.look{id:Nat}{st st':St}{a:Act}(hi:qcb w0 S id st a w)(h1:∀s,lkE st'.env s=lkE st.env s)(h2:st'.hp=st.hp)(h3:st'.n=st.n):qcb w0 S id st' a w:=by
 obtain⟨pu,ow,m1,m2,m3,m4,m5,m6,m7⟩:=hi
 exact⟨pu,ow,by rw[h2];exact m1,fun s=>by rw[h1];exact m2 s,m3,m4,m5,by rw[h3];exact m6,m7⟩
theorem qA7:∀(n:Nat) (L:Nat→Bool),cnt n L≤n
 |0,_=>Nat.le_refl _
 |n+1,L=>by have:=qA7 n L;simp only[cnt];split<;>omega
theorem qgl{o:Oper}{j:Nat}(h:qqM all m o j=true):j<m∧∃oj,all[j]? =some oj∧oj.guard=none∧(∀s,oj.dst=some s→s∉qcB o.op∧o.dst≠some s)∧∀t,o.dst=some t→t∉qcB oj.op:=by
 unfold qqM at h
 simp only[Bool.and_eq_true,decide_eq_true_eq]at h
 obtain⟨h1,h2⟩:=h
 split at h2
 ·rename_i oj ho
  simp only[Bool.and_eq_true]at h2
  obtain⟨⟨h3,h4⟩,h5⟩:=h2
  refine⟨h1,oj,ho,by simpa using h3,fun s hs=>?_,fun t ht=>?_⟩
  ·rw[hs]at h4
   simpa using h4
  ·rw[ht]at h5
   simpa using h5
 ·cases h2
end
def owM(o:Ow):Nat→Ow:=fun b=>if b=0 then o else .pending
mutual
def qme:D→Bool
 |.agg cs=>qqN cs
 |.tup cs=>qqN cs
 |.clo _ xs ys=>qqN xs&&qqN ys
 |.sl _=>true
 |.ptr _=>true
 |.iface _ d=>qme d
 |d=>qa0 d
def qqN:List D→Bool
 |[]=>true
 |d::ds=>qme d&&qqN ds
end
def inB(b:Nat):D→Option D
 |.os b' off len=>if b'=b then some (.os 0 off len)else none
 |d=>if qme d=true then some d else none
def inL(b:Nat):List D→Option (List D)
 |[]=>some []
 |d::ds=>match inB b d,inL b ds with
  |some d',some ds'=>some (d'::ds')
  |_,_=>none
def qo0(b:Nat):List D→Bool
 |[]=>false
 |.os b' _ _::ds=>b'==b||qo0 b ds
 |_::ds=>qo0 b ds
def qB8(b:Nat):D→D
 |.os _ off len=>.os b off len
 |d=>d
def qEl(b:Nat):D→D
 |.tup ds=>.tup (ds.map (qB8 b))
 |d=>qB8 b d
def okO:D→Bool
 |.os b _ _=>b==0
 |d=>qa0 d
def qo1:D→Bool
 |.tup ds=>ds.all okO
 |d=>okO d
def qcT(P:Program)(f:FuncId)(ds:List D)(blk:Blk)(r:D)(blk':Blk):Prop:=
 qDZ P f∧qey blk'.rows=true∧qo1 r=true∧∀(S:Nat→Prop) (w:World) (args:Array Value) (o:Ow),(∀g,S g→g<w.heap.size)→(o=.empty∨∃g a k sz,o=.lies g a k sz∧¬S g)→qb5 w S (owM o) o blk→
  args.size=ds.length→(∀(i:Nat) (v:Value) (d:D),args[i]? =some v→ds[i]? =some d→Rep w S (owM o) v d)→
  Calls P f args w fun e w'=>(Below 0 w w'∧∀g,g<w.heap.size→(∀a k sz,o≠ .lies g a k sz)→w'.heap[g]? =w.heap[g]?)∧
   ∃v,e=.returned v∧qb5 w' (fun _=>False) (owM o) o blk'∧Rep w' (fun _=>False) (owM o) v r
def qd4(P:Program)(o:Op)(dst:Option Tmp)(st:St)(K:X→St→Prop):Prop:=
 match o with
 |.call {callee:=.value f,args:=args,..}=>
  match qac st.env f with
  |.clo (.func g) xs ys=>∃b blk args' r blk',lkH st.hp b=some blk∧qey blk.rows=true∧inL b (xs++args.toList.map (qac st.env)++ys)=some args'∧qo0 b (xs++args.toList.map (qac st.env)++ys)=true∧
    qcT P g args' blk r blk'∧qcJ st dst (qEl b r) st.env (qj1 b blk' st.hp) K
  |_=>False
 |_=>False
def hpX(hp:Hp)(b:Nat):Nat→Option Blk:=fun c=>if c=b then none else lkH hp c
mutual
def inX(hp:Hp)(b:Nat):D→Option D
 |.os b' off len=>if b'=b then some (.os 0 off len)else pur (hpX hp b) 64 (.os b' off len)
 |.op b' row off=>if b'=b then some (.op 0 row off)else pur (hpX hp b) 64 (.op b' row off)
 |.clo fn xs ys=>match qB9 hp b xs,qB9 hp b ys with
  |some xs',some ys'=>some (.clo fn xs' ys')
  |_,_=>none
 |d=>pur (hpX hp b) 64 d
def qB9(hp:Hp)(b:Nat):List D→Option (List D)
 |[]=>some []
 |d::ds=>match inX hp b d,qB9 hp b ds with
  |some d',some ds'=>some (d'::ds')
  |_,_=>none
end
mutual
def qvB(b:Nat):D→Bool
 |.os b' _ _=>b'==b
 |.op b' _ _=>b'==b
 |.clo _ xs ys=>qqO b xs||qqO b ys
 |_=>false
def qqO(b:Nat):List D→Bool
 |[]=>false
 |d::ds=>qvB b d||qqO b ds
end
def qe5(P:Program)(o:Op)(dst:Option Tmp)(st:St)(K:X→St→Prop):Prop:=
 match o with
 |.call {callee:=.value f,args:=args,..}=>
  match qac st.env f with
  |.clo (.func g) xs ys=>∃b blk args' r blk',lkH st.hp b=some blk∧qey blk.rows=true∧qB9 st.hp b (xs++args.toList.map (qac st.env)++ys)=some args'∧qqO b (xs++args.toList.map (qac st.env)++ys)=true∧
    qcT P g args' blk r blk'∧qcJ st dst (qEl b r) st.env (qj1 b blk' st.hp) K
  |_=>False
 |_=>False
def qCa(P:Program)(e:TypeId)(k:Nat):Bool:=match P.info? e with
 |some i=>match i.zero with
  |some z=>z.cells.size==k&&z.cells.all (·.oneCell')
  |none=>false
 |none=>false
def qi2(P:Program)(o:Op)(dst:Option Tmp)(st:St)(K:X→St→Prop):Prop:=
 match o with
 |.call {callee:=.builtin .clear,args:=args,argTypes:=ts}=>
  ∃x t e b off len blk,args= #[x]∧ts= #[t]∧P.underlying t=some (.slice e)∧qCa P e blk.k=true∧qac st.env x=.os b off len∧lkH st.hp b=some blk∧qey blk.rows=true∧off+len≤blk.rows.length∧
   qcJ st dst (.tup []) st.env (qj1 b ⟨blk.k,blk.flat,blk.rows.take off⟩ st.hp) K
 |_=>False
def qha(P:Program)(o:Op)(dst:Option Tmp)(st:St)(K:X→St→Prop):Prop:=
 match o with
 |.call {callee:=.builtin .copy,args:=args,argTypes:=ts}=>∃x y t e b off len m blk new fl rows,args= #[x,y]∧ts= #[t,t]∧P.underlying t=some (.slice e)∧0<P.cellsOf e∧qac st.env x=.os b off len∧lkH st.hp b=some blk∧
   blk.k=P.cellsOf e∧off+len≤blk.rows.length∧min len new.length=m∧0<m∧qaY (lkH st.hp) (qac st.env y)=some new∧(∀r∈new,r.length=P.cellsOf e)∧(∀r∈new,∀c∈r,qhk c=true)∧
   rows=blk.rows.take off++new.take m++blk.rows.drop (off+m)∧(fl=true→qan rows=true)∧
   kOK (lkH st.hp) (P.cellsOf e) (qac st.env y)=true∧qcJ st dst (.int .i64 m) st.env (qj1 b ⟨blk.k,fl,rows⟩ st.hp) K
 |_=>False
def qt8(P:Program)(o:Op)(id:Nat)(dst:Option Tmp)(st:St)(K:X→St→Prop):Prop:=
 match o with
 |.makeMap _ none=>qcJ st dst (.om id) st.env ((id,⟨0,true,[]⟩)::st.hp) K
 |.mapUpdate t m k v=>∃b rows k' kt et td,P.underlying t=some (.map kt et)∧P.underlying kt=some td∧qac st.env m=.om b∧lkH st.hp b=some ⟨k',true,rows⟩∧qt1 td (qac st.env k)=true∧
   (qf9 (qac st.env v)).isSome=true∧findR td (qac st.env k) rows=some none∧qcJ st dst .skip st.env (qj1 b ⟨0,true,rows++[[qac st.env k,qac st.env v]]⟩ st.hp) K
 |_=>False
def qb0(P:Program)(all:List Oper):List Oper→Nat→St→(X→St→Prop)→Prop
 |[],id,st,K=>K .normal {st with nx:=id}
 |o::rest,id,st,K=>
  let k:=fun x st'=>match x with
   |.normal=>qb0 P all rest (id+32) st' K
   |x=>K x st'
  (match o.guard with
  |none=>qap P o.op id o.dst st k
  |some (j,want)=>
   match qdV all st.env j with
   |some (some b)=>(b=want→qap P o.op id o.dst st k)∧(b=(!want)→qak st.n o.dst=true∧qb0 P all rest (id+32) (st.put o.dst .skip) K)
   |some none=>qak st.n o.dst=true∧qb0 P all rest (id+32) (st.put o.dst .skip) K
   |none=>False)∨(o.guard=none∧(qd4 P o.op o.dst st k∨qi2 P o.op o.dst st k∨qt8 P o.op id o.dst st k∨qe5 P o.op o.dst st k∨qha P o.op o.dst st k))
section
variable {P:Program}{w w' w0:World}{pu pu' Q:Nat→Prop}{S:Frm}{ow ow':Nat→Ow}{base:Nat}{hp:Hp}
theorem qgm:∀{ds:List D},qqN ds=true→∀(i:Nat) (d:D),ds[i]? =some d→qme d=true
 |[],_,i,d,h=>by simp at h
 |e::ds,hm,i,d,h=>by
  simp only[qqN,Bool.and_eq_true]at hm
  cases i with
  |zero=>simp at h;subst h;exact hm.1
  |succ i=>exact qgm hm.2 i d (by simpa using h)
theorem Rep.toP{v:Value}{d:D}(h:Rep w pu ow v d):qme d=true→RepP w pu v d:=by
 induction h with
 |pure v d h=>exact fun _=>h
 |agg vs cs hl _ ih=>exact fun hr=>.agg vs cs hl fun i v d h1 h2=>ih i v d h1 h2 (qgm (by simpa[qme]using hr) i d h2)
 |tup vs cs hl _ ih=>exact fun hr=>.tup vs cs hl fun i v d h1 h2=>ih i v d h1 h2 (qgm (by simpa[qme]using hr) i d h2)
 |clo fn xs ys cs ds hx _ hy _ ih ih'=>
  intro hr
  simp only[qme,Bool.and_eq_true]at hr
  exact .clo fn xs ys cs ds hx (fun i v d h1 h2=>ih i v d h1 h2 (qgm hr.1 i d h2)) hy fun i v d h1 h2=>ih' i v d h1 h2 (qgm hr.2 i d h2)
 |iface t v d _ ih=>exact fun hr=>.iface t v d (ih (by simpa[qme]using hr))
 |_=>intro hr;simp[qme,qa0]at hr
theorem qv0{b:Nat}:∀{ds ds':List D},inL b ds=some ds'→ds'.length=ds.length∧∀(i:Nat) (d':D),ds'[i]? =some d'→∃d,ds[i]? =some d∧inB b d=some d'
 |[],ds',h=>by simp[inL]at h;subst h;exact⟨rfl,fun i d h=>by simp at h⟩
 |d::ds,ds',h=>by
  simp only[inL]at h
  split at h
  ·rename_i e es h1 h2
   injection h with h;subst h
   obtain⟨h3,h4⟩:=qv0 h2
   refine⟨by simp[h3],fun i d' hi=>?_⟩
   cases i with
   |zero=>simp at hi;subst hi;exact⟨d,rfl,h1⟩
   |succ i=>obtain⟨x,hx,hy⟩:=h4 i d' (by simpa using hi);exact⟨x,by simpa using hx,hy⟩
  ·cases h
theorem qo2{b:Nat}:∀{ds:List D},qo0 b ds=true→∃(i:Nat) (off len:Nat),ds[i]? =some (.os b off len)
 |[],h=>by cases h
 |d::ds,h=>by
  have hr:qo0 b ds=true→∃(i:Nat) (off len:Nat),(d::ds)[i]? =some (.os b off len):=fun h=>by
   obtain⟨i,o,l,hi⟩:=qo2 h
   exact⟨i+1,o,l,by simpa using hi⟩
  cases d with
  |os b' o l=>
   simp only[qo0,Bool.or_eq_true,beq_iff_eq]at h
   rcases h with h|h
   ·subst h;exact⟨0,o,l,rfl⟩
   ·exact hr h
  |_=>exact hr h
theorem qCb{b:Nat}{o:Ow}(ho:ow b=o)(hd:o≠ .dead){v:Value}{d d':D}(h:Rep w pu ow v d)(hi:inB b d=some d'):Rep w pu (owM o) v d':=by
 unfold inB at hi
 split at hi
 ·rename_i b' off len
  split at hi
  ·rename_i e;subst e
   injection hi with hi;subst hi
   cases h with
   |pure _ _ h=>cases h
   |osd a n c _ _ _ hb=>exact(hd (ho▸hb)).elim
   |ose a _ _ hb=>exact .ose a 0 off (by simp[owM,←ho,hb])
   |osa a cap _ _ _ g o' k sz hb hl hm=>exact .osa a cap 0 off len g o' k sz (by simp[owM,←ho,hb]) hl hm
  ·cases hi
 ·split at hi
  ·rename_i hf
   injection hi with hi;subst hi
   exact .pure _ _ (h.toP hf)
  ·cases hi
theorem qr5{b:Nat}{o:Ow}(ho:ow b=o){v:Value}{d:D}(h:Rep w Q (owM o) v d)(hk:okO d=true):Rep w pu ow v (qB8 b d):=by
 unfold okO at hk
 split at hk
 ·rename_i b' off len
  simp only[beq_iff_eq]at hk
  subst hk
  simp only[qB8]
  cases h with
  |pure _ _ h=>cases h
  |osd a n c _ _ _ hb=>exact .osd a n c b off len (by rw[ho];simpa[owM]using hb)
  |ose a _ _ hb=>exact .ose a b off (by rw[ho];simpa[owM]using hb)
  |osa a cap _ _ _ g o' k sz hb hl hm=>exact .osa a cap b off len g o' k sz (by rw[ho];simpa[owM]using hb) hl hm
 ·have:qB8 b d=d:=by cases d<;>first|rfl|cases hk
  rw[this]
  cases h with
  |pure _ _ h=>exact .pure _ _ (qcn h hk)
  |_=>cases hk
theorem qr6{b:Nat}{o:Ow}(ho:ow b=o){v:Value}{r:D}(h:Rep w Q (owM o) v r)(hk:qo1 r=true):Rep w pu ow v (qEl b r):=by
 unfold qo1 at hk
 split at hk
 ·rename_i ds
  obtain⟨vs,rfl,h1,h2⟩:=h.tup_inv
  refine .tup vs (ds.map (qB8 b)) (by simp[h1]) fun i v d hv hd=>?_
  rw[List.getElem?_map]at hd
  obtain⟨e,he,rfl⟩:=Option.map_eq_some_iff.1 hd
  exact qr5 ho (h2 i v e hv he) (List.all_eq_true.1 hk e (List.mem_of_getElem? he))
 ·rename_i hnt
  have:qEl b r=qB8 b r:=by
   cases r<;>first|rfl|exact(hnt _ rfl).elim
  rw[this]
  exact qr5 ho h hk
theorem Mem.inplace(hm:Mem base w pu ow (lkH hp))(hbase:base≤w.heap.size){b:Nat}{blk blk':Blk}{o:Ow}(hb:lkH hp b=some blk)(ho:ow b=o)(hbw:Below 0 w w')
  (hh:∀g,g<w.heap.size→(∀a k sz,o≠ .lies g a k sz)→w'.heap[g]? =w.heap[g]?) (hk:qb5 w' Q (owM o) o blk') (hs:qey blk'.rows=true):
  Mem base w' pu ow (lkH (qj1 b blk' hp))∧Ext w pu ow w' pu ow∧Below base w w':=by
 have hoth:∀g,(∀a k sz,ow b≠ .lies g a k sz)→g<w.heap.size→w'.heap[g]? =w.heap[g]?:=fun g h1 h2=>hh g h2 (ho▸h1)
 have hext:Ext w pu ow w' pu ow:=⟨fun g hg=>⟨hg,hoth g (fun a k sz h=>(hm.own b g a k sz h).2 hg) (hm.zone g hg)⟩,fun _=>.inr (.inl rfl)⟩
 refine⟨⟨fun c blk2 hc=>?_,fun c hc=>?_,hm.injO,hm.ownO,fun g hg=>Nat.lt_of_lt_of_le (hm.zone g hg) hbw.size⟩,hext,⟨hbw.os,hbw.tape,hbw.output,hbw.size,fun g hg=>?_,hbw.drawn⟩⟩
 ·rw[qfH]at hc
  split at hc
  ·rename_i h
   obtain⟨rfl,_⟩:=h
   injection hc with hc;subst hc
   rw[ho]
   exact hk.rezone hs
  ·rename_i h
   have hcb:c≠b:=fun e=>h ⟨e,by rw[hc];rfl⟩
   exact(hm.blk c blk2 hc).mono hext fun g hat=>hoth g (fun a' k' sz' h'=>hcb (hm.injO c b _ hat (Ow.on_lies h'))) (hm.on_lt hat)
 ·rw[qfH]at hc
  split at hc
  ·cases hc
  ·exact hm.none c hc
 ·exact hoth g (fun a k sz h'=>by have:=(hm.own b g a k sz h').1;omega) (by omega)
theorem qmI{o:Oper}{id:Nat}{st:St}{a:Act}{K:X→St→Prop}{N:Act→World→Prop}{R:Exit→Act→World→Prop}
  (hi:qcb w0 S id st a w) (h:qd4 P o.op o.dst st K) (hN:∀st' a' w',K .normal st'→qcb w0 S (id+32) st' a' w'→N a' w'):o.wp P a w N R:=by
 obtain⟨pu,ow,hm,he,hb,hz,hid,hs,hd⟩:=hi
 unfold qd4 at h
 split at h
 ·rename_i op f args ts ho
  split at h
  ·rename_i g xs ys hfd
   obtain⟨b,blk,args',r,blk',hlk,hsc,hin,hos,hcon,hst⟩:=h
   have hf:=he.eval f
   rw[hfd]at hf
   obtain⟨vx,vy,hfv,hlx,hrx,hly,hry⟩:=hf.clo_inv
   unfold Oper.wp
   rw[qhX hcon.1 ho hfv,Oper.upon_enter]
   have hargs:∀(i:Nat) (v:Value) (d:D),(vx++args.map a.eval++vy)[i]? =some v→(xs++args.toList.map (qac st.env)++ys)[i]? =some d→Rep w pu ow v d:=by
    intro i v d h1 h2
    rw[Array.getElem?_append,Array.getElem?_append]at h1
    rw[List.getElem?_append,List.getElem?_append]at h2
    simp only[Array.size_append,Array.size_map,List.length_append,List.length_map,Array.length_toList,hlx]at h1 h2
    split at h1
    ·rename_i hlt
     rw[if_pos hlt]at h2
     split at h1
     ·rename_i hlt2
      rw[if_pos hlt2]at h2
      exact hrx i v d h1 h2
     ·rename_i hlt2
      rw[if_neg hlt2]at h2
      rw[Array.getElem?_map]at h1
      rw[List.getElem?_map,Array.getElem?_toList]at h2
      obtain⟨x,hx,rfl⟩:=Option.map_eq_some_iff.1 h1
      rw[hx]at h2
      injection h2 with h2;subst h2
      exact he.eval x
    ·rename_i hlt
     rw[if_neg hlt]at h2
     exact hry _ v d h1 h2
   have hlen:(vx++args.map a.eval++vy).size=(xs++args.toList.map (qac st.env)++ys).length:=by simp[hlx,hly]
   generalize vx++args.map a.eval++vy=vs at hargs hlen
   generalize xs++args.toList.map (qac st.env)++ys=ds at hargs hlen hin hos
   have hblk:=hm.blk b blk hlk
   have hnd:ow b≠ .dead:=fun h=>by rw[h]at hblk;exact hblk.2
   have howb:ow b=.empty∨∃g a k sz,ow b=.lies g a k sz∧¬pu g:=by
    obtain⟨i,off,len,hi⟩:=qo2 hos
    have hv:=hargs i _ _ (Array.getElem?_eq_getElem (by rw[hlen];exact(List.getElem?_eq_some_iff.1 hi).1)) hi
    generalize vs[i]'_=v at hv
    cases hv with
    |pure _ _ h=>cases h
    |osd a n c _ _ _ h=>exact(hnd h).elim
    |ose a _ _ h=>exact .inl h
    |osa a cap _ _ _ g o k sz h _ _=>exact .inr ⟨g,o,k,sz,h,(hm.own b g o k sz h).2⟩
   obtain⟨h1,h2⟩:=qv0 hin
   have hbk:qb5 w pu (owM (ow b)) (ow b) blk:=hblk.rezone hsc
   refine(hcon.2.2.2 pu w vs (ow b) hm.zone howb hbk (by omega) fun i v d hv hd=>?_).mono fun e w' ⟨⟨hbw,hh⟩,v,hev,hk',hrep⟩=>?_
   ·obtain⟨d0,hd0,hi0⟩:=h2 i d hd
    exact qCb rfl hnd (hargs i v d0 hv hd0) hi0
   ·subst hev
    obtain⟨m1,m2,m3⟩:=hm.inplace hb.size hlk rfl hbw hh hk' hcon.2.1
    exact hN _ _ _ hst.2 ⟨pu,ow,m1,(he.mono m2).put (by rw[hs];exact hst.1) (qr6 rfl hrep hcon.2.2.1),hb.trans m3,hz,fun c hc=>hid c (by omega),by rw[qcX];exact hs,by rw[qbZ];exact hd.1,hd.2.step m2 fun _=>.inr rfl⟩
  ·exact h.elim
 ·exact h.elim
theorem qr7{o:Ow}{blk:Blk}(h:qb5 w pu ow o blk)(hno:∀g,o≠ .mp g)(n:Nat):qb5 w pu ow o ⟨blk.k,blk.flat,blk.rows.take n⟩:=by
 refine⟨fun hf=>?_,?_⟩
 ·have:=h.1 hf
  simp only[qan,List.all_eq_true]at this ⊢
  exact fun r hr=>this r (List.mem_of_mem_take hr)
 ·have h2:=h.2
  cases o with
  |dead=>exact h2
  |pending=>trivial
  |empty=>simp only at h2 ⊢;rw[h2];simp
  |mp g=>exact(hno g rfl).elim
  |lies g o k sz=>
   obtain⟨k1,k2,k3,k4,c,t,k5,k6,k7⟩:=h2
   refine⟨k1,k2,fun r hr=>k3 r (List.mem_of_mem_take hr),?_,c,t,k5,k6,fun i j d hd=>k7 i j d ?_⟩
   ·have:(blk.rows.take n).length*k≤blk.rows.length*k:=Nat.mul_le_mul_right k (by rw[List.length_take];omega)
    show o+(blk.rows.take n).length*k≤sz
    omega
   ·unfold qau at hd ⊢
    rw[List.getElem?_take]at hd
    split at hd
    ·exact hd
    ·cases hd
theorem qqP{w w':World}{pu pu':Nat→Prop}{v:Value}{d:D}(h:RepP w pu v d)(hs:qa0 d=true):RepP w' pu' v d:=by
 cases h with
 |undef v=>exact .undef v
 |skip=>exact .skip
 |int k n=>exact .int k n
 |bool b=>exact .bool b
 |str s=>exact .str s
 |float k n=>exact .float k n
 |nilptr=>exact .nilptr
 |nilfunc=>exact .nilfunc
 |nilif=>exact .nilif
 |_=>cases hs
theorem qmJ{rows:List (List D)}(h:qey rows=true)(n:Nat):qey (rows.take n)=true:=by
 simp only[qey,List.all_eq_true]at h ⊢
 exact fun r hr=>h r (List.mem_of_mem_take hr)
theorem qnI(z:Array Value)(n:Nat):(Builtin.zeroCells z n).toList.length=n*z.size:=by simp[Builtin.zeroCells]
theorem qnJ{z:Array Value}(h:∀v∈z,v.oneCell'=true)(n:Nat):∀v∈(Builtin.zeroCells z n).toList,v.oneCell'=true:=by
 intro v hv
 simp only[Builtin.zeroCells,Array.toList_map,List.mem_map,Array.toList_range,List.mem_range]at hv
 obtain⟨i,hi,rfl⟩:=hv
 have hz:0<z.size:=by
  rcases Nat.eq_zero_or_pos z.size with h0|h0
  ·rw[h0,Nat.mul_zero]at hi;omega
  ·exact h0
 have hlt:i%z.size<z.size:=Nat.mod_lt _ hz
 rw[getElem!_pos z _ hlt]
 exact h _ (Array.getElem_mem _)
theorem qo3{e:TypeId}{k:Nat}(h:qCa P e k=true):∃i z,P.info? e=some i∧i.zero=some z∧z.cells.size=k∧∀v∈z.cells,v.oneCell'=true:=by
 unfold qCa at h
 split at h
 ·rename_i i hi
  split at h
  ·rename_i z hz
   simp only[Bool.and_eq_true,beq_iff_eq,Array.all_eq_true_iff_forall_mem]at h
   exact⟨i,z,hi,hz,h.1,h.2⟩
  ·cases h
 ·cases h
theorem qt9{o:Oper}{id:Nat}{st:St}{a:Act}{K:X→St→Prop}{N:Act→World→Prop}{R:Exit→Act→World→Prop}
  (hi:qcb w0 S id st a w) (h:qi2 P o.op o.dst st K) (hN:∀st' a' w',K .normal st'→qcb w0 S (id+32) st' a' w'→N a' w'):o.wp P a w N R:=by
 obtain⟨pu,ow,hm,he,hb,hz,hid,hs,hd⟩:=hi
 unfold qi2 at h
 split at h
 ·rename_i op args ts ho
  obtain⟨x,t,e,b,off,len,blk,rfl,rfl,hu,hclr,hx,hlk,hsc,hle,hst⟩:=h
  have hv:=he.eval x
  rw[hx]at hv
  have hblk:=hm.blk b blk hlk
  have hbk:qb5 w pu (owM (ow b)) (ow b) blk:=hblk.rezone hsc
  have hrunof:∀w',(Builtin.clear_ #[t] o.type #[a.eval x]).run P w=.ok (.tuple #[]) w'→(execOp a.eval o).run P w=.ok (.value (.tuple #[])) w':=by
   intro w' hr
   obtain⟨dst,op,ty,pos,after,guard⟩:=o
   simp only at ho hr
   subst ho
   simp[execOp,resolve,invoke,builtin,hr]
  have done:∀w',(Builtin.clear_ #[t] o.type #[a.eval x]).run P w=.ok (.tuple #[]) w'→Below 0 w w'→(∀g,g<w.heap.size→(∀a k sz,ow b≠ .lies g a k sz)→w'.heap[g]? =w.heap[g]?)→
    qb5 w' pu (owM (ow b)) (ow b) ⟨blk.k,blk.flat,blk.rows.take off⟩→o.wp P a w N R:=by
   intro w' hr hbw hh hk'
   obtain⟨m1,m2,m3⟩:=hm.inplace hb.size hlk rfl hbw hh hk' (qmJ hsc off)
   exact qeU m1 (he.mono m2) (hb.trans m3) hz (fun c hc=>hid c (by omega)) hs ⟨hd.1,hd.2.step m2 fun _=>.inr rfl⟩ (hrunof w' hr) (.tup _ _ rfl fun i v d h1 h2=>by simp at h2) hst hN
  have none_case:∀(p:Option Addr) (c:Nat),a.eval x=.slice p 0 c→(∀g,ow b≠ .mp g)→o.wp P a w N R:=by
   intro p c hval hno
   refine done w ?_ (Below.refl _ _) (fun _ _ _=>rfl) (qr7 hbk hno off)
   rw[hval]
   cases p<;>simp[Builtin.clear_,run_underlying hu]
  generalize hva:a.eval x=va at hv
  cases hv with
  |pure _ _ h=>cases h
  |osd a n c _ _ _ hdd=>rw[hdd]at hblk;exact hblk.2.elim
  |ose a' _ _ hem=>exact none_case a' 0 hva (by rw[hem];simp)
  |osa a' cap _ _ _ g o' k sz hat hl hmm=>
   by_cases hlen:len=0
   ·subst hlen;exact none_case a' cap hva (by rw[hat];simp)
   obtain⟨rfl,hfit⟩:=hmm (by omega)
   rw[hat]at hbk
   obtain⟨h1,h2,h3,h4,h5,c,ct,h6,h7,h8⟩:=hbk
   obtain⟨i,z,hi,hzz,hzs,hzo⟩:=qo3 hclr
   have hkk:blk.k=k:=h2
   have hlenc:(Builtin.zeroCells z.cells len).toList.length=len*k:=by rw[qnI,hzs,hkk]
   have hroom:o'+off*k+0+(Builtin.zeroCells z.cells len).toList.length≤c.size:=by
    rw[hlenc,h7]
    have:=Nat.mul_le_mul_right k (show off+len≤blk.rows.length from hle)
    rw[Nat.add_mul]at this
    omega
   have hrun:=run_storeCells_at (P:=P) g (o'+off*k) ct (Builtin.zeroCells z.cells len).toList 0 c w h6 hroom (qnJ hzo len)
   refine done (w.setRow g (c.toList.take (o'+off*k+0)++(Builtin.zeroCells z.cells len).toList++c.toList.drop (o'+off*k+0+(Builtin.zeroCells z.cells len).toList.length)).toArray) (by
    rw[hva]
    obtain⟨m,rfl⟩:∃m,len=m+1:=⟨len-1,by omega⟩
    simp[Builtin.clear_,zeroValue,typeInfo,run_underlying hu,hi,hzz,hrun]) ⟨rfl,rfl,rfl,by simp,fun q hq=>absurd hq (Nat.not_lt_zero q),.same rfl⟩ (fun q hq hno=>setRow_other w g q _ (by rintro rfl;exact hno _ _ _ hat)) ?_
   rw[hat]
   have hb':qb5 w pu (owM (.lies g o' k sz)) (.lies g o' k sz) ⟨blk.k,blk.flat,blk.rows.take off⟩:=qr7 (o:=.lies g o' k sz) (blk:=blk) ⟨h1,h2,h3,h4,h5,c,ct,h6,h7,h8⟩ (by simp) off
   obtain⟨g1,g2,g3,g4,g5,_⟩:=hb'
   refine⟨g1,g2,g3,g4,g5,_,ct,setRow_heap w g c _ ct _ h6,?_,?_⟩
   ·have:(c.toList.take (o'+off*k+0)++(Builtin.zeroCells z.cells len).toList++c.toList.drop (o'+off*k+0+(Builtin.zeroCells z.cells len).toList.length)).length=sz:=by
     simp only[List.length_append,List.length_take,List.length_drop,Array.length_toList,hlenc,h7]
     rw[hlenc,h7]at hroom
     omega
    simpa using this
   ·intro i j d hd
    have hij:qau blk.rows i j=some d∧i<off∧j<k:=by
     unfold qau at hd ⊢
     obtain⟨r,hr,hj⟩:=Option.bind_eq_some_iff.1 hd
     have hr':=hr
     rw[List.getElem?_take]at hr
     split at hr
     ·rename_i hlt
      refine⟨by rw[hr];exact hj,hlt,?_⟩
      have:=h4 r (List.mem_of_getElem? hr)
      rw[←this];exact(List.getElem?_eq_some_iff.1 hj).1
     ·cases hr
    obtain⟨v,hv,hr⟩:=h8 i j d hij.1
    have hlt:o'+i*k+j<o'+off*k:=by
     have:=Nat.mul_le_mul_right k (show i+1≤off from hij.2.1)
     rw[Nat.add_mul]at this
     omega
    have hsd:qa0 d=true:=by
     unfold qau at hd
     obtain⟨r,hr',hj⟩:=Option.bind_eq_some_iff.1 hd
     exact List.all_eq_true.1 (List.all_eq_true.1 (qmJ hsc off) r (List.mem_of_getElem? hr')) d (List.mem_of_getElem? hj)
    refine⟨v,?_,?_⟩
    ·rw[List.getElem?_toArray,List.append_assoc,List.getElem?_append_left (by rw[List.length_take,Array.length_toList];have:=(Array.getElem?_eq_some_iff.1 hv).1;omega),List.getElem?_take,if_pos (by omega),Array.getElem?_toList]
     exact hv
    ·cases hr with
     |pure _ _ hp=>exact .pure _ _ (qqP hp hsd)
     |_=>cases hsd
 ·exact h.elim
theorem Mem.mapPut(hm:Mem base w pu ow (lkH hp)){b g:Nat}{blk blk':Blk}(hb:lkH hp b=some blk)(hat:ow b=.mp g)(o:Obj)(hk:qb5 {w with heap:=w.heap.setIfInBounds g o} pu ow (.mp g) blk'):
  Mem base {w with heap:=w.heap.setIfInBounds g o} pu ow (lkH (qj1 b blk' hp))∧Ext w pu ow {w with heap:=w.heap.setIfInBounds g o} pu ow∧Below base w {w with heap:=w.heap.setIfInBounds g o}:=by
 have hoth:∀x,x≠g→(w.heap.setIfInBounds g o)[x]? =w.heap[x]?:=fun x hx=>by rw[Array.getElem?_setIfInBounds,if_neg (fun e=>hx e.symm)]
 have hext:Ext w pu ow {w with heap:=w.heap.setIfInBounds g o} pu ow:=⟨fun x hx=>⟨hx,hoth x (by rintro rfl;exact(hm.ownO b _ (Ow.on_mp hat)).2 hx)⟩,fun _=>.inr (.inl rfl)⟩
 refine⟨⟨fun c blk2 hc=>?_,fun c hc=>?_,hm.injO,hm.ownO,fun x hx=>?_⟩,hext,⟨rfl,rfl,rfl,by simp,fun x hx=>hoth x ?_,.same rfl⟩⟩
 ·rw[qfH]at hc
  split at hc
  ·rename_i h
   obtain⟨rfl,_⟩:=h
   injection hc with hc;subst hc
   rw[hat];exact hk
  ·rename_i h
   have hcb:c≠b:=fun e=>h ⟨e,by rw[hc];rfl⟩
   exact(hm.blk c blk2 hc).mono hext fun x hx=>hoth x (by rintro rfl;exact hcb (hm.injO c b _ hx (Ow.on_mp hat)))
 ·rw[qfH]at hc
  split at hc
  ·cases hc
  ·exact hm.none c hc
 ·show x<(w.heap.setIfInBounds g o).size
  simpa using hm.zone x hx
 ·have:=(hm.ownO b _ (Ow.on_mp hat)).1
  omega
theorem qo4{o:Oper}{id:Nat}{st:St}{a:Act}{K:X→St→Prop}{N:Act→World→Prop}{R:Exit→Act→World→Prop}
  (hi:qcb w0 S id st a w) (h:qha P o.op o.dst st K) (hN:∀st' a' w',K .normal st'→qcb w0 S (id+32) st' a' w'→N a' w'):o.wp P a w N R:=by
 obtain⟨pu,ow,hm,he,hb,hz,hid,hs,hd⟩:=hi
 have hid':∀b,id+32≤b→ow b=.pending:=fun b hb=>hid b (by omega)
 unfold qha at h
 split at h
 ·rename_i op args ts hop
  obtain⟨x,y,t,e,b,off,len,m,blk,new,fl,rows,rfl,rfl,hu,hpos,hx,hlk,hbk,hbl,hmin,hm0,hcont,hnr,hnc,hrows,hnf,hky,hst⟩:=h
  have hvx:=he.eval x
  rw[hx]at hvx
  obtain⟨ad,cap,hxv,hcase⟩:=hvx.os_inv (hm.live hlk)
  rcases hcase with⟨_,h0,_⟩|⟨g,o',k,sz,hat,hlc,hmm⟩
  ·omega
  obtain⟨rfl,hsz⟩:=hmm (by omega)
  have hblk:=hm.blk b blk hlk
  rw[hat]at hblk
  obtain⟨hfl,h1,h2,h3,h4,c,ct,h5,h6,h7⟩:=hblk
  have hkk:k=P.cellsOf e:=by rw[←h1];exact hbk
  subst hkk
  obtain⟨ay,capy,F,hyv,hly,hgy,hFy⟩:=qiW (k:=P.cellsOf e) hm hpos hnr (he.eval y) (fun b' off' len' blk' hd' hb'=>by
   rw[hd']at hky
   simp only[kOK,hb',Bool.or_eq_true,beq_iff_eq]at hky
   exact hky) hcont
  obtain⟨gy,oy,rfl,hcy⟩:=hgy (by intro hh;rw[hh]at hmin;simp at hmin;omega)
  have hmn:m≤new.length:=by omega
  have hfit:o'+off*P.cellsOf e+m*P.cellsOf e≤c.toList.length:=by
   have:=Nat.mul_le_mul_right (P.cellsOf e) (show off+m≤off+cap by omega)
   rw[Nat.add_mul]at this
   simp only[Array.length_toList,h6]
   omega
  have hmk:=Nat.mul_le_mul_right (P.cellsOf e) hmn
  have hone:∀v∈(List.range (m*P.cellsOf e)).map F,v.oneCell'=true:=by
   intro v hv
   obtain⟨q,hq,rfl⟩:=List.mem_map.1 hv
   rw[List.mem_range]at hq
   have hq':q/P.cellsOf e<new.length:=Nat.div_lt_of_lt_mul (by rw[Nat.mul_comm];omega)
   have hmod:=Nat.mod_lt q hpos
   have hrow:=hnr _ (List.getElem_mem hq')
   have hd':qau new (q/P.cellsOf e) (q%P.cellsOf e)=some ((new[q/P.cellsOf e]'hq')[q%P.cellsOf e]'(by omega)):=by
    simp[qau,List.getElem?_eq_getElem hq',List.getElem?_eq_getElem (show q%P.cellsOf e<(new[q/P.cellsOf e]'hq').length by omega)]
   have:=hFy _ _ _ hd'
   rw[Nat.mul_comm,Nat.div_add_mod]at this
   exact qkD this (hnc _ (List.getElem_mem hq') _ (List.getElem_mem _))
  have hcsl:((List.range (m*P.cellsOf e)).map F).length=m*P.cellsOf e:=by simp
  have hst0:=run_storeCells_at (P:=P) g (o'+off*P.cellsOf e) ct ((List.range (m*P.cellsOf e)).map F) 0 c w h5 (by rw[hcsl];simpa using hfit) hone
  have hspl:(c.toList.take (o'+off*P.cellsOf e+0)++(List.range (m*P.cellsOf e)).map F++c.toList.drop (o'+off*P.cellsOf e+0+((List.range (m*P.cellsOf e)).map F).length))=qbo c.toList (o'+off*P.cellsOf e) ((List.range (m*P.cellsOf e)).map F):=by simp[qbo]
  rw[hspl]at hst0
  have hload:=run_loadCells (P:=P) w ⟨gy,oy,none⟩ (m*P.cellsOf e) F (fun j hj=>by rw[Addr.add_spotless];exact hcy j (by omega))
  have hll:o'+off*P.cellsOf e+((List.range (m*P.cellsOf e)).map F).length≤c.toList.length:=by rw[hcsl];exact hfit
  have hcopy:(Builtin.copy_ #[t,t] o.type #[.slice (some ⟨g,o'+off*P.cellsOf e,none⟩) len cap,.slice (some ⟨gy,oy,none⟩) new.length capy]).run P w=.ok (goInt m) (w.setRow g (qbo c.toList (o'+off*P.cellsOf e) ((List.range (m*P.cellsOf e)).map F)).toArray):=by
   have hmin':Nat.min new.length len=m:=by show min new.length len=m;rw[Nat.min_comm];exact hmin
   simp only[Builtin.copy_,Sem.run_bind,run_underlying hu,Builtin.lenOf,Builtin.firstCells,qbc hpos,hmin',Result.andThen_ok,Sem.run_pure,List.getElem?_toArray,List.getElem?_cons_zero,List.getElem?_cons_succ,hload,hst0]
  have hrun:(execOp a.eval o).run P w=.ok (.value (.int .i64 m)) (w.setRow g (qbo c.toList (o'+off*P.cellsOf e) ((List.range (m*P.cellsOf e)).map F)).toArray):=by
   obtain⟨dst,op,ty,pos,after,guard⟩:=o
   simp only at hop hcopy
   subst hop
   simp[execOp,resolve,invoke,builtin,hxv,hyv,hcopy,goInt]
  have hto:(blk.rows.take off).length=off:=by rw[List.length_take];omega
  have htm:(new.take m).length=m:=by rw[List.length_take];omega
  have hrl:rows.length=blk.rows.length:=by rw[hrows];simp;omega
  obtain⟨m1,m2⟩:=hm.store (blk':=⟨blk.k,fl,rows⟩) hlk hat (qbo c.toList (o'+off*P.cellsOf e) ((List.range (m*P.cellsOf e)).map F)).toArray
   (by rw[List.size_toArray,qcS hll];simpa using h6) hnf rfl hrl (fun r hr=>by
    simp only[hrows,List.mem_append]at hr
    rcases hr with(hr|hr)|hr
    ·exact h3 r (List.mem_of_mem_take hr)
    ·exact hnr r (List.mem_of_mem_take hr)
    ·exact h3 r (List.mem_of_mem_drop hr))
   (fun i j d hd'=>by
    have hd2:=hd'
    unfold qau at hd'
    obtain⟨r,hr,hj⟩:=Option.bind_eq_some_iff.1 hd'
    have hjk:j<P.cellsOf e:=by
     have:=(List.getElem?_eq_some_iff.1 hj).1
     have hmem:=List.mem_of_getElem? hr
     simp only[hrows,List.mem_append]at hmem
     rcases hmem with(hmem|hmem)|hmem
     ·rw[h3 r (List.mem_of_mem_take hmem)]at this;exact this
     ·rw[hnr r (List.mem_of_mem_take hmem)]at this;exact this
     ·rw[h3 r (List.mem_of_mem_drop hmem)]at this;exact this
    have hr':rows[i]? =if i<off then blk.rows[i]? else if i<off+m then new[i-off]? else blk.rows[i]?:=by
     rw[hrows,List.append_assoc,List.getElem?_append,hto]
     split
     ·rename_i hlt
      rw[List.getElem?_take,if_pos hlt]
     ·rename_i hlt
      rw[List.getElem?_append,htm]
      by_cases hl2:i<off+m
      ·rw[if_pos (by omega),if_pos hl2,List.getElem?_take,if_pos (by omega)]
      ·rw[if_neg (by omega),if_neg hl2,List.getElem?_drop,show off+m+(i-off-m)=i by omega]
    rw[hr]at hr'
    by_cases hin:off≤i∧i<off+m
    ·rw[if_neg (by omega),if_pos hin.2]at hr'
     have hcell:qau new (i-off) j=some d:=by simp[qau,←hr',hj]
     have hlt:(i-off)*P.cellsOf e+j<m*P.cellsOf e:=by
      have:=Nat.mul_le_mul_right (P.cellsOf e) (show i-off+1≤m by omega)
      rw[Nat.add_mul]at this
      omega
     have hoi:o'+i*P.cellsOf e+j-(o'+off*P.cellsOf e)=(i-off)*P.cellsOf e+j:=by
      have:i*P.cellsOf e=off*P.cellsOf e+(i-off)*P.cellsOf e:=by rw[←Nat.add_mul,show off+(i-off)=i by omega]
      omega
     refine⟨F ((i-off)*P.cellsOf e+j),?_,hFy _ j d hcell⟩
     have hoff:off*P.cellsOf e≤i*P.cellsOf e:=Nat.mul_le_mul_right _ hin.1
     have:i*P.cellsOf e=off*P.cellsOf e+(i-off)*P.cellsOf e:=by rw[←Nat.add_mul,show off+(i-off)=i by omega]
     rw[List.getElem?_toArray,qc3 hll,if_pos (by rw[hcsl];omega),hoi]
     exact qeh hlt
    ·have hold:blk.rows[i]? =some r:=by
      rcases Nat.lt_or_ge i off with h'|h'
      ·rw[if_pos h']at hr';exact hr'.symm
      ·rw[if_neg (by omega),if_neg (by omega)]at hr';exact hr'.symm
     obtain⟨v,hv,hrep⟩:=h7 i j d (by simp[qau,hold,hj])
     refine⟨v,?_,hrep⟩
     rw[List.getElem?_toArray,qc3 hll,if_neg ?_,Array.getElem?_toList]
     ·exact hv
     ·rw[hcsl]
      rintro⟨q1,q2⟩
      apply hin
      constructor
      ·refine Nat.not_lt.1 fun hlt=>?_
       have:=Nat.mul_le_mul_right (P.cellsOf e) (show i+1≤off by omega)
       rw[Nat.add_mul]at this
       omega
      ·refine Nat.not_le.1 fun hlt=>?_
       have:=Nat.mul_le_mul_right (P.cellsOf e) hlt
       rw[Nat.add_mul]at this
       omega)
  have hhp:lkH (qj1 b ⟨blk.k,fl,rows⟩ st.hp)=qA3 b ⟨blk.k,fl,rows⟩ (lkH st.hp):=by
   funext z
   rw[qfH]
   unfold qA3
   by_cases hz':z=b
   ·subst hz';simp[hlk]
   ·simp[hz']
  rw[←hhp]at m1
  exact qeU m1 (he.mono m2) (hb.trans (qfD (Below.refl _ _) (hm.own b _ _ _ _ hat).1 _)) hz hid' hs ⟨hd.1,hd.2.step m2 fun _=>.inr rfl⟩ hrun (.pure _ _ (.int _ _)) hst hN
 ·exact h.elim
theorem qze{o:Oper}{id:Nat}{st:St}{a:Act}{K:X→St→Prop}{N:Act→World→Prop}{R:Exit→Act→World→Prop}
  (hi:qcb w0 S id st a w) (h:qt8 P o.op id o.dst st K) (hN:∀st' a' w',K .normal st'→qcb w0 S (id+32) st' a' w'→N a' w'):o.wp P a w N R:=by
 obtain⟨pu,ow,hm,he,hb,hz,hid,hs,hd⟩:=hi
 have hid':∀b,id+32≤b→ow b=.pending:=fun b hb=>hid b (by omega)
 unfold qt8 at h
 split at h
 ·rename_i op t hop
  have hm':Mem w0.heap.size w pu ow (lkH ((id,⟨0,true,[]⟩)::st.hp)):=by
   refine⟨fun b blk' hb'=>?_,fun b hb'=>?_,hm.injO,hm.ownO,hm.zone⟩
   ·simp only[lkH]at hb'
    split at hb'
    ·rename_i hbi
     subst hbi
     rw[hid b (Nat.le_refl _)]
     injection hb' with hb';subst hb'
     exact⟨fun _=>rfl,trivial⟩
    ·exact hm.blk b blk' hb'
   ·simp only[lkH]at hb'
    split at hb'
    ·cases hb'
    ·exact hm.none b hb'
  have hpid:=hid id (Nat.le_refl _)
  obtain⟨m1,m2⟩:=hm'.newMap (blk:=⟨0,true,[]⟩) hpid (by simp[lkH]) hb.size rfl ⟨rfl,rfl⟩
  refine qeU m1 (he.mono m2) (hb.trans ((qew w _).mono hb.size)) hz (fun b hb'=>by rw[qay (by omega)];exact hid' b hb') hs ⟨hd.1,hd.2.step m2 fun c=>by by_cases hc:c=id;(subst hc;exact .inl hpid);exact .inr (qay hc)⟩ (v:=.map (some w.heap.size)) ?_ (.oma _ _ (qbO _ _ _)) h hN
  obtain⟨dst,op,ty,pos,after,guard⟩:=o
  simp only at hop
  subst hop
  simp[execOp,Instr.makeMap]
 ·rename_i op t m k v hop
  obtain⟨b,rows,k',kt,et,td,hu,htd,hmd,hlk,hkey,hval,hfind,hst⟩:=h
  have hme:=he.eval m
  rw[hmd]at hme
  obtain⟨g,hat,hmv⟩:=hme.om_inv (hm.live hlk)
  have hblk:=hm.blk b _ hlk
  rw[hat]at hblk
  obtain⟨hfl,hk0,es,clock,hg,hrows⟩:=hblk
  obtain⟨kv,hk1,hkk⟩:=qoM hkey
  obtain⟨vv,hv1⟩:=Option.isSome_iff_exists.1 hval
  have ekv:=qkz (he.eval k) hk1
  have evv:=qkz (he.eval v) hv1
  have hfn:=qgI hk1 rows es.toList 0 _ hrows hfind
  have hget:=MapKept.run_getObj_map (P:=P) hg
  have hchk:=MapKept.run_checkKey (P:=P) (w:=w) htd hkk false 9999
  have hfk:=MapKept.run_findKey (P:=P) (w:=w) htd hfn
  have hset:=MapKept.run_setObj_map (P:=P) (w:=w) (.map (es.push {key:=kv,val:=vv,born:=clock}) (clock+1)) hg
  have hlite:∀{d:D} {u:Value},qf9 d=some u→qkw d=true:=fun{d u} h=>by cases d<;>simp[qf9]at h<;>rfl
  obtain⟨m1,m2,m3⟩:=hm.mapPut (blk':=⟨0,true,rows++[[qac st.env k,qac st.env v]]⟩) hlk hat (.map (es.push {key:=kv,val:=vv,born:=clock}) (clock+1)) ⟨fun _=>by
    have h0:=hfl rfl
    simp only[qan,List.all_append,Bool.and_eq_true]at h0 ⊢
    refine⟨h0,?_⟩
    simp[hlite hk1,hlite hv1],⟨rfl,rfl⟩,es.push {key:=kv,val:=vv,born:=clock},clock+1,by
    show(w.heap.setIfInBounds g _)[g]? =_
    rw[Array.getElem?_setIfInBounds,if_pos rfl,if_pos (Array.getElem?_eq_some_iff.1 hg).1],by
    have h0:qhj es.toList rows:=hrows
    unfold qhj at h0 ⊢
    simp[h0,hk1,hv1]⟩
  have hrun:(execOp a.eval o).run P w=.ok .skip {w with heap:=w.heap.setIfInBounds g (.map (es.push {key:=kv,val:=vv,born:=clock}) (clock+1))}:=by
   obtain⟨dst,op,ty,pos,after,guard⟩:=o
   simp only at hop
   subst hop
   simp[execOp,Instr.mapUpdate,hmv,ekv,evv,run_underlying hu,hget,hchk,hfk,hset,Result.andThen]
  unfold Oper.wp
  rw[hrun,Oper.upon_skip]
  exact hN _ _ _ hst.2 ⟨pu,ow,m1,(he.mono m2).put (by rw[hs];exact hst.1) (.pure _ _ .skip),hb.trans m3,hz,hid',by rw[qcX];exact hs,by rw[qbZ];exact hd.1,hd.2.step m2 fun _=>.inr rfl⟩
 ·exact h.elim
theorem qgL{b:Nat}:∀{ds ds':List D},qB9 hp b ds=some ds'→ds'.length=ds.length∧∀(i:Nat) (d':D),ds'[i]? =some d'→∃d,ds[i]? =some d∧inX hp b d=some d'
 |[],ds',h=>by simp[qB9]at h;subst h;exact⟨rfl,fun i d h=>by simp at h⟩
 |d::ds,ds',h=>by
  simp only[qB9]at h
  split at h
  ·rename_i e es h1 h2
   injection h with h;subst h
   obtain⟨h3,h4⟩:=qgL h2
   refine⟨by simp[h3],fun i d' hi=>?_⟩
   cases i with
   |zero=>simp at hi;subst hi;exact⟨d,rfl,h1⟩
   |succ i=>obtain⟨x,hx,hy⟩:=h4 i d' (by simpa using hi);exact⟨x,by simpa using hx,hy⟩
  ·cases h
theorem qfj{b:Nat}:∀{ds:List D},qqO b ds=true→∃(i:Nat) (d:D),ds[i]? =some d∧qvB b d=true
 |[],h=>by simp[qqO]at h
 |d::ds,h=>by
  simp only[qqO,Bool.or_eq_true]at h
  rcases h with h|h
  ·exact⟨0,d,rfl,h⟩
  ·obtain⟨i,e,hi,he⟩:=qfj h
   exact⟨i+1,e,by simpa using hi,he⟩
theorem qCc{b:Nat}(hnd:ow b≠ .dead){v:Value}{d:D}(h:Rep w pu ow v d):qvB b d=true→ow b=.empty∨∃g a k sz,ow b=.lies g a k sz:=by
 induction h with
 |clo fn xs ys cs ds hx h1 hy h2 ih1 ih2=>
  intro hh
  simp only[qvB,Bool.or_eq_true]at hh
  rcases hh with hh|hh
  ·obtain⟨i,e,hi,he⟩:=qfj hh
   have hlt:i<cs.length:=(List.getElem?_eq_some_iff.1 hi).1
   exact ih1 i _ e (Array.getElem?_eq_getElem (by omega)) hi he
  ·obtain⟨i,e,hi,he⟩:=qfj hh
   have hlt:i<ds.length:=(List.getElem?_eq_some_iff.1 hi).1
   exact ih2 i _ e (Array.getElem?_eq_getElem (by omega)) hi he
 |pure v d h=>
  intro hh
  induction h with
  |clo fn xs ys cs ds hx h1 hy h2 ih1 ih2=>
   simp only[qvB,Bool.or_eq_true]at hh
   rcases hh with hh|hh
   ·obtain⟨i,e,hi,he⟩:=qfj hh
    have hlt:i<cs.length:=(List.getElem?_eq_some_iff.1 hi).1
    exact ih1 i _ e (Array.getElem?_eq_getElem (by omega)) hi he
   ·obtain⟨i,e,hi,he⟩:=qfj hh
    have hlt:i<ds.length:=(List.getElem?_eq_some_iff.1 hi).1
    exact ih2 i _ e (Array.getElem?_eq_getElem (by omega)) hi he
  |_=>simp[qvB]at hh
 |osd a n c b' off len hb=>intro hh;simp only[qvB,beq_iff_eq]at hh;subst hh;exact(hnd hb).elim
 |ose a b' off hb=>intro hh;simp only[qvB,beq_iff_eq]at hh;subst hh;exact .inl hb
 |osa a cap b' off len g o k sz hb hl hm=>intro hh;simp only[qvB,beq_iff_eq]at hh;subst hh;exact .inr ⟨g,o,k,sz,hb⟩
 |opd a b' row off hb=>intro hh;simp only[qvB,beq_iff_eq]at hh;subst hh;exact(hnd hb).elim
 |opa b' row off g o k sz hb=>intro hh;simp only[qvB,beq_iff_eq]at hh;subst hh;exact .inr ⟨g,o,k,sz,hb⟩
 |_=>intro hh;simp[qvB]at hh
def owX(ow:Nat→Ow)(b:Nat):Nat→Ow:=fun c=>if c=b then .dead else ow c
theorem qIs{b:Nat}:Ext w pu ow w pu (owX ow b):=⟨fun _ h=>⟨h,rfl⟩,fun c=>by unfold owX;split;exact .inr (.inr rfl);exact .inr (.inl rfl)⟩
theorem Mem.dropX(hm:Mem base w pu ow (lkH hp))(b:Nat):Mem base w pu (owX ow b) (hpX hp b):=by
 refine⟨fun c blk hc=>?_,fun c hc=>?_,fun c c' g h1 h2=>?_,fun c g h1=>?_,hm.zone⟩
 ·unfold hpX at hc
  split at hc
  ·cases hc
  ·rename_i hne
   have:owX ow b c=ow c:=by simp[owX,hne]
   rw[this]
   exact(hm.blk c blk hc).mono qIs fun g _=>rfl
 ·unfold hpX at hc
  split at hc
  ·rename_i e;subst e;exact .inl (by simp[owX])
  ·rename_i hne
   have:owX ow b c=ow c:=by simp[owX,hne]
   rw[this]
   exact hm.none c hc
 ·unfold owX at h1 h2
  split at h1
  ·exact h1.elim
  ·split at h2
   ·exact h2.elim
   ·exact hm.injO c c' g h1 h2
 ·unfold owX at h1
  split at h1
  ·exact h1.elim
  ·exact hm.ownO c g h1
def qua(pu:Nat→Prop)(ow:Nat→Ow)(b:Nat):Nat→Prop:=fun g=>pu g∨∃c a k sz,c≠b∧ow c=.lies g a k sz
theorem qCd{b:Nat}(hm:Mem base w pu ow (lkH hp))(hnd:ow b≠ .dead){v:Value}{d:D}(h:Rep w pu ow v d):∀d',inX hp b d=some d'→Rep w (qua pu ow b) (owM (ow b)) v d':=by
 have hpur:∀(v:Value) (d d':D),Rep w pu ow v d→pur (hpX hp b) 64 d=some d'→Rep w (qua pu ow b) (owM (ow b)) v d':=fun v d d' h hp'=>
  .pure _ _ (qmB (hm.dropX b) (fun g hg=>.inl hg) 64 v d d' (h.mono qIs) (.inr fun c g o k sz hc=>by
   unfold owX at hc
   split at hc
   ·cases hc
   ·rename_i hne;exact .inr ⟨c,o,k,sz,hne,hc⟩) hp')
 induction h with
 |clo fn xs ys cs ds hx h1 hy h2 ih1 ih2=>
  intro d' hd
  simp only[inX]at hd
  split at hd
  ·rename_i cs' ds' e1 e2
   injection hd with hd;subst hd
   obtain⟨l1,g1⟩:=qgL e1
   obtain⟨l2,g2⟩:=qgL e2
   refine .clo fn xs ys cs' ds' (by omega) (fun i v e hv he=>?_) (by omega) fun i v e hv he=>?_
   ·obtain⟨e0,he0,hi0⟩:=g1 i e he
    exact ih1 i v e0 hv he0 e hi0
   ·obtain⟨e0,he0,hi0⟩:=g2 i e he
    exact ih2 i v e0 hv he0 e hi0
  ·cases hd
 |pure v d h=>
  induction h with
  |clo fn xs ys cs ds hx h1 hy h2 ih1 ih2=>
   intro d' hd
   simp only[inX]at hd
   split at hd
   ·rename_i cs' ds' e1 e2
    injection hd with hd;subst hd
    obtain⟨l1,g1⟩:=qgL e1
    obtain⟨l2,g2⟩:=qgL e2
    refine .clo fn xs ys cs' ds' (by omega) (fun i v e hv he=>?_) (by omega) fun i v e hv he=>?_
    ·obtain⟨e0,he0,hi0⟩:=g1 i e he
     exact ih1 i v e0 hv he0 e hi0
    ·obtain⟨e0,he0,hi0⟩:=g2 i e he
     exact ih2 i v e0 hv he0 e hi0
   ·cases hd
  |_=>intro d' hd;refine hpur _ _ d' (.pure _ _ ?_) (by simpa only[inX]using hd);first|(constructor;done)|(constructor<;>assumption)
 |osd a n c b' off len hb=>
  intro d' hd
  simp only[inX]at hd
  split at hd
  ·rename_i e;subst e;exact(hnd hb).elim
  ·exact hpur _ _ _ (.osd a n c b' off len hb) hd
 |ose a b' off hb=>
  intro d' hd
  simp only[inX]at hd
  split at hd
  ·rename_i e;subst e
   injection hd with hd;subst hd
   exact .ose a 0 off (by simpa[owM]using hb)
  ·exact hpur _ _ _ (.ose a b' off hb) hd
 |osa a cap b' off len g o k sz hb hl hm'=>
  intro d' hd
  simp only[inX]at hd
  split at hd
  ·rename_i e;subst e
   injection hd with hd;subst hd
   exact .osa a cap 0 off len g o k sz (by simpa[owM]using hb) hl hm'
  ·exact hpur _ _ _ (.osa a cap b' off len g o k sz hb hl hm') hd
 |opd a b' row off hb=>
  intro d' hd
  simp only[inX]at hd
  split at hd
  ·rename_i e;subst e;exact(hnd hb).elim
  ·exact hpur _ _ _ (.opd a b' row off hb) hd
 |opa b' row off g o k sz hb=>
  intro d' hd
  simp only[inX]at hd
  split at hd
  ·rename_i e;subst e
   injection hd with hd;subst hd
   exact .opa 0 row off g o k sz (by simpa[owM]using hb)
  ·exact hpur _ _ _ (.opa b' row off g o k sz hb) hd
 |agg vs cs hl h _=>intro d' hd;exact hpur _ _ d' (.agg vs cs hl h) (by simpa only[inX]using hd)
 |tup vs cs hl h _=>intro d' hd;exact hpur _ _ d' (.tup vs cs hl h) (by simpa only[inX]using hd)
 |iface t v d h _=>intro d' hd;exact hpur _ _ d' (.iface t v d h) (by simpa only[inX]using hd)
 |nilsl=>intro d' hd;exact hpur _ _ d' .nilsl (by simpa only[inX]using hd)
 |omd r b' hb=>intro d' hd;exact hpur _ _ d' (.omd r b' hb) (by simpa only[inX]using hd)
 |oma b' g hb=>intro d' hd;exact hpur _ _ d' (.oma b' g hb) (by simpa only[inX]using hd)
theorem qmK{o:Oper}{id:Nat}{st:St}{a:Act}{K:X→St→Prop}{N:Act→World→Prop}{R:Exit→Act→World→Prop}
  (hi:qcb w0 S id st a w) (h:qe5 P o.op o.dst st K) (hN:∀st' a' w',K .normal st'→qcb w0 S (id+32) st' a' w'→N a' w'):o.wp P a w N R:=by
 obtain⟨pu,ow,hm,he,hb,hz,hid,hs,hd⟩:=hi
 unfold qe5 at h
 split at h
 ·rename_i op f args ts ho
  split at h
  ·rename_i g xs ys hfd
   obtain⟨b,blk,args',r,blk',hlk,hsc,hin,hos,hcon,hst⟩:=h
   have hf:=he.eval f
   rw[hfd]at hf
   obtain⟨vx,vy,hfv,hlx,hrx,hly,hry⟩:=hf.clo_inv
   unfold Oper.wp
   rw[qhX hcon.1 ho hfv,Oper.upon_enter]
   have hargs:∀(i:Nat) (v:Value) (d:D),(vx++args.map a.eval++vy)[i]? =some v→(xs++args.toList.map (qac st.env)++ys)[i]? =some d→Rep w pu ow v d:=by
    intro i v d h1 h2
    rw[Array.getElem?_append,Array.getElem?_append]at h1
    rw[List.getElem?_append,List.getElem?_append]at h2
    simp only[Array.size_append,Array.size_map,List.length_append,List.length_map,Array.length_toList,hlx]at h1 h2
    split at h1
    ·rename_i hlt
     rw[if_pos hlt]at h2
     split at h1
     ·rename_i hlt2
      rw[if_pos hlt2]at h2
      exact hrx i v d h1 h2
     ·rename_i hlt2
      rw[if_neg hlt2]at h2
      rw[Array.getElem?_map]at h1
      rw[List.getElem?_map,Array.getElem?_toList]at h2
      obtain⟨x,hx,rfl⟩:=Option.map_eq_some_iff.1 h1
      rw[hx]at h2
      injection h2 with h2;subst h2
      exact he.eval x
    ·rename_i hlt
     rw[if_neg hlt]at h2
     exact hry _ v d h1 h2
   have hlen:(vx++args.map a.eval++vy).size=(xs++args.toList.map (qac st.env)++ys).length:=by simp[hlx,hly]
   generalize vx++args.map a.eval++vy=vs at hargs hlen
   generalize xs++args.toList.map (qac st.env)++ys=ds at hargs hlen hin hos
   have hblk:=hm.blk b blk hlk
   have hnd:ow b≠ .dead:=fun h=>by rw[h]at hblk;exact hblk.2
   have howb:ow b=.empty∨∃g a k sz,ow b=.lies g a k sz∧¬qua pu ow b g:=by
    obtain⟨i,e,hi,he⟩:=qfj hos
    have hv:=hargs i _ _ (Array.getElem?_eq_getElem (by rw[hlen];exact(List.getElem?_eq_some_iff.1 hi).1)) hi
    rcases qCc hnd hv he with h|⟨g,o,k,sz,h⟩
    ·exact .inl h
    ·refine .inr ⟨g,o,k,sz,h,fun hz=>?_⟩
     rcases hz with hz|⟨c,o',k',sz',hne,hc⟩
     ·exact(hm.own b g o k sz h).2 hz
     ·exact hne (hm.injO c b g (Ow.on_lies hc) (Ow.on_lies h))
   obtain⟨h1,h2⟩:=qgL hin
   have hbk:qb5 w (qua pu ow b) (owM (ow b)) (ow b) blk:=hblk.rezone hsc
   have hzone:∀g,qua pu ow b g→g<w.heap.size:=fun g hg=>by
    rcases hg with hg|⟨c,o',k',sz',_,hc⟩
    ·exact hm.zone g hg
    ·exact hm.at_lt hc
   refine(hcon.2.2.2 (qua pu ow b) w vs (ow b) hzone howb hbk (by omega) fun i v d hv hd=>?_).mono fun e w' ⟨⟨hbw,hh⟩,v,hev,hk',hrep⟩=>?_
   ·obtain⟨d0,hd0,hi0⟩:=h2 i d hd
    exact qCd hm hnd (hargs i v d0 hv hd0) d hi0
   ·subst hev
    obtain⟨m1,m2,m3⟩:=hm.inplace hb.size hlk rfl hbw hh hk' hcon.2.1
    exact hN _ _ _ hst.2 ⟨pu,ow,m1,(he.mono m2).put (by rw[hs];exact hst.1) (qr6 rfl hrep hcon.2.2.1),hb.trans m3,hz,fun c hc=>hid c (by omega),by rw[qcX];exact hs,by rw[qbZ];exact hd.1,hd.2.step m2 fun _=>.inr rfl⟩
  ·exact h.elim
 ·exact h.elim
theorem qdj{all:List Oper}{K:X→St→Prop}:∀(l:List Oper) (id:Nat) (st:St) (a:Act) (w:World),(S.free∨∀o∈l,qg2 o.op=true)→qcb w0 S id st a w→qb0 P all l id st K→wpList P all.toArray (qmd w0 S K) l a w
 |[],id,st,a,w,_,hi,h=>⟨_,h,hi⟩
 |o::rest,id,st,a,w,hNA,hi,h=>by
  have hNA1:S.free∨qg2 o.op=true:=hNA.imp (fun h=>h) fun h=>h o (by simp)
  have hNA2:S.free∨∀o∈rest,qg2 o.op=true:=hNA.imp (fun h=>h) fun h o ho=>h o (by simp[ho])
  have hrun:∀(hi:qcb w0 S id st a w),qap P o.op id o.dst st (fun x st'=>match x with|.normal=>qb0 P all rest (id+32) st' K|x=>K x st')→o.wp P a w (wpList P all.toArray (qmd w0 S K) rest) (qmd w0 S K):=fun hi hr=>
   qiY hNA1 hi hr (fun st' a' w' hK hi'=>qdj rest _ st' a' w' hNA2 hi' hK) fun d chain w' hK hp=>⟨d,st,hK,hi.defers,hp⟩
  unfold qb0 at h
  simp only at h
  unfold wpList
  rcases h with h|⟨hg,h⟩
  ·cases hg:o.guard with
   |none=>
    rw[hg]at h
    rw[if_pos (by simp[Region.wanted,hg])]
    exact .inl (hrun hi h)
   |some jw=>
    obtain⟨j,want⟩:=jw
    rw[hg]at h
    simp only at h
    obtain⟨pu,ow,he⟩:=hi.env
    split at h
    ·rename_i b hgd
     have hy:=qhY he hgd
     by_cases hb:b=want
     ·rw[if_pos (by simp[Region.wanted,hg,hy,hb])]
      exact .inl (hrun hi (h.1 hb))
     ·have hb':b= !want:=by cases b<;>cases want<;>simp_all
      rw[if_neg (by simp[Region.wanted,hg,hy,hb])]
      obtain⟨h1,h2⟩:=h.2 hb'
      exact qdj rest _ _ _ _ hNA2 (hi.skip h1) h2
    ·rename_i hgd
     have hy:=qhY he hgd
     rw[if_neg (by simp[Region.wanted,hg,hy])]
     exact qdj rest _ _ _ _ hNA2 (hi.skip h.1) h.2
    ·exact h.elim
  ·rw[if_pos (by simp[Region.wanted,hg])]
   rcases h with h|h|h|h|h
   ·exact .inl (qmI hi h fun st' a' w' hK hi'=>qdj rest _ st' a' w' hNA2 hi' hK)
   ·exact .inl (qt9 hi h fun st' a' w' hK hi'=>qdj rest _ st' a' w' hNA2 hi' hK)
   ·exact .inl (qze hi h fun st' a' w' hK hi'=>qdj rest _ st' a' w' hNA2 hi' hK)
   ·exact .inl (qmK hi h fun st' a' w' hK hi'=>qdj rest _ st' a' w' hNA2 hi' hK)
   ·exact .inl (qo4 hi h fun st' a' w' hK hi'=>qdj rest _ st' a' w' hNA2 hi' hK)
end
def qKC(E:St→St→Prop)(all:List Oper)(z:List Nat)(st s1:St):Prop:=
 ∀(A:Nat→Prop) (E2:Env),(∀s,(∀j∈z,qbp all j≠some s)→A s)→(∀s,A s→lkE E2 s=lkE st.env s)→∃E3,(∀s,A s→lkE E3 s=lkE s1.env s)∧E ⟨E2,st.hp,st.nx,st.n⟩ ⟨E3,s1.hp,s1.nx,s1.n⟩
def qcD(E:St→St→Prop)(P:Program)(all:List Oper)(m:Nat):List Oper→List (List Nat)→Nat→St→(X→St→Prop)→Prop
 |[],[],id,st,K=>K .normal {st with nx:=id}
 |o::rest,z::zs,id,st,K=>qap P o.op id o.dst st (qfi fun st'=>qbP P all st' z∧qcD E P all m rest zs (id+32+32*m) st' K)∨
   qd4 P o.op o.dst st (qfi fun st'=>qbP P all st' z∧qcD E P all m rest zs (id+32+32*m) st' K)∨
   qe5 P o.op o.dst st (qfi fun st'=>qbP P all st' z∧qcD E P all m rest zs (id+32+32*m) st' K)∨
   qha P o.op o.dst st (qfi fun st'=>qbP P all st' z∧qcD E P all m rest zs (id+32+32*m) st' K)∨
   (∃s1,qKC E all z {st with nx:=id} s1∧qap P o.op s1.nx o.dst s1 (qfi fun st'=>qbP P all st' z∧qcD E P all m rest zs (s1.nx+32+32*m) st' K))
 |_,_,_,_,_=>False
def qv1(E:St→St→Prop)(P:Program)(all:List Oper)(m:Nat)(zs:List (List Nat))(st:St)(K:X→St→Prop):Prop:=
 (st.hp.all fun x=>decide (x.1<st.nx))=true∧
 qaP P all (all.take m) st.nx st (qfi fun st'=>qcD E P all m (all.drop m) zs st'.nx st' K)
section
variable {P:Program}{E:St→St→Prop}{w w0:World}{S:Frm}{all:List Oper}{m id0 n:Nat}{a:Act}{Q:Exit→Act→World→Prop}
theorem qnK{A:Nat→Prop}{E E2:Env}{hp:Hp}{nx:Nat}{K:X→St→Prop}{o:Op}{dst:Option Tmp}(hA:∀s,A s→lkE E2 s=lkE E s)(ho:∀s∈qcB o,A s)(h:qd4 P o dst ⟨E,hp,nx,n⟩ K):
  qd4 P o dst ⟨E2,hp,nx,n⟩ fun x st2=>∃E',K x ⟨E',st2.hp,st2.nx,st2.n⟩∧(x=.normal→∀s,(A s∨dst=some s)→lkE st2.env s=lkE E' s):=by
 have hρ:∀x∈o.operands,qac E x=qac E2 x:=by
  intro x hx
  cases x with
  |tmp t=>exact(hA t (ho t (List.mem_filterMap.2 ⟨.tmp t,by simpa using hx,rfl⟩))).symm
  |_=>rfl
 have step:∀{d:D} {F F2:Env} {hp':Hp},(∀s,A s→lkE F2 s=lkE F s)→qcJ ⟨E,hp,nx,n⟩ dst d F hp' K→
   qcJ ⟨E2,hp,nx,n⟩ dst d F2 hp' fun x st2=>∃E',K x ⟨E',st2.hp,st2.nx,st2.n⟩∧(x=.normal→∀s,(A s∨dst=some s)→lkE st2.env s=lkE E' s):=by
  intro d F F2 hp' hF ⟨h1,h2⟩
  refine⟨h1,qdU dst d F,h2,fun _ s hs=>?_⟩
  simp only[qgK]
  split
  ·rfl
  ·rename_i hne
   rcases hs with hs|hs
   ·exact hF s hs
   ·exact(hne hs).elim
 unfold qd4 at h ⊢
 split at h
 ·rename_i f args ts
  have hf:=hρ f (by simp[Op.operands,Call.operands])
  have hargs:args.toList.map (qac E)=args.toList.map (qac E2):=qnC fun x hx=>hρ x (by simp[Op.operands,Call.operands,hx])
  dsimp only at h ⊢
  rw[←hf,←hargs]
  split at h
  ·obtain⟨b,blk,args',r,blk',h1,h2,h3,h4,h5,h6⟩:=h
   exact⟨b,blk,args',r,blk',h1,h2,h3,h4,h5,step hA h6⟩
  ·exact h.elim
 ·exact h.elim
theorem qnL{A:Nat→Prop}{E E2:Env}{hp:Hp}{nx:Nat}{K:X→St→Prop}{o:Op}{dst:Option Tmp}(hA:∀s,A s→lkE E2 s=lkE E s)(ho:∀s∈qcB o,A s)(h:qe5 P o dst ⟨E,hp,nx,n⟩ K):
  qe5 P o dst ⟨E2,hp,nx,n⟩ fun x st2=>∃E',K x ⟨E',st2.hp,st2.nx,st2.n⟩∧(x=.normal→∀s,(A s∨dst=some s)→lkE st2.env s=lkE E' s):=by
 have hρ:∀x∈o.operands,qac E x=qac E2 x:=by
  intro x hx
  cases x with
  |tmp t=>exact(hA t (ho t (List.mem_filterMap.2 ⟨.tmp t,by simpa using hx,rfl⟩))).symm
  |_=>rfl
 have step:∀{d:D} {F F2:Env} {hp':Hp},(∀s,A s→lkE F2 s=lkE F s)→qcJ ⟨E,hp,nx,n⟩ dst d F hp' K→
   qcJ ⟨E2,hp,nx,n⟩ dst d F2 hp' fun x st2=>∃E',K x ⟨E',st2.hp,st2.nx,st2.n⟩∧(x=.normal→∀s,(A s∨dst=some s)→lkE st2.env s=lkE E' s):=by
  intro d F F2 hp' hF ⟨h1,h2⟩
  refine⟨h1,qdU dst d F,h2,fun _ s hs=>?_⟩
  simp only[qgK]
  split
  ·rfl
  ·rename_i hne
   rcases hs with hs|hs
   ·exact hF s hs
   ·exact(hne hs).elim
 unfold qe5 at h ⊢
 split at h
 ·rename_i f args ts
  have hf:=hρ f (by simp[Op.operands,Call.operands])
  have hargs:args.toList.map (qac E)=args.toList.map (qac E2):=qnC fun x hx=>hρ x (by simp[Op.operands,Call.operands,hx])
  dsimp only at h ⊢
  rw[←hf,←hargs]
  split at h
  ·obtain⟨b,blk,args',r,blk',h1,h2,h3,h4,h5,h6⟩:=h
   exact⟨b,blk,args',r,blk',h1,h2,h3,h4,h5,step hA h6⟩
  ·exact h.elim
 ·exact h.elim
theorem qo5{A:Nat→Prop}{E E2:Env}{hp:Hp}{nx:Nat}{K:X→St→Prop}{o:Op}{dst:Option Tmp}(hA:∀s,A s→lkE E2 s=lkE E s)(ho:∀s∈qcB o,A s)(h:qha P o dst ⟨E,hp,nx,n⟩ K):
  qha P o dst ⟨E2,hp,nx,n⟩ fun x st2=>∃E',K x ⟨E',st2.hp,st2.nx,st2.n⟩∧(x=.normal→∀s,(A s∨dst=some s)→lkE st2.env s=lkE E' s):=by
 have hρ:∀x∈o.operands,qac E x=qac E2 x:=by
  intro x hx
  cases x with
  |tmp t=>exact(hA t (ho t (List.mem_filterMap.2 ⟨.tmp t,by simpa using hx,rfl⟩))).symm
  |_=>rfl
 have step:∀{d:D} {F F2:Env} {hp':Hp},(∀s,A s→lkE F2 s=lkE F s)→qcJ ⟨E,hp,nx,n⟩ dst d F hp' K→
   qcJ ⟨E2,hp,nx,n⟩ dst d F2 hp' fun x st2=>∃E',K x ⟨E',st2.hp,st2.nx,st2.n⟩∧(x=.normal→∀s,(A s∨dst=some s)→lkE st2.env s=lkE E' s):=by
  intro d F F2 hp' hF ⟨h1,h2⟩
  refine⟨h1,qdU dst d F,h2,fun _ s hs=>?_⟩
  simp only[qgK]
  split
  ·rfl
  ·rename_i hne
   rcases hs with hs|hs
   ·exact hF s hs
   ·exact(hne hs).elim
 unfold qha at h ⊢
 split at h
 ·rename_i args ts
  obtain⟨x,y,t,e,b,off,len,m,blk,new,fl,rows,rfl,rfl,h3,h4,h5,h6,h7,h8,h9,h10,h11,h12,h13,h14,h15,h16,h17⟩:=h
  have hx:=hρ x (by simp[Op.operands,Call.operands])
  have hy:=hρ y (by simp[Op.operands,Call.operands])
  dsimp only at h5 h11 h16 ⊢
  rw[hx]at h5
  rw[hy]at h11 h16
  exact⟨x,y,t,e,b,off,len,m,blk,new,fl,rows,rfl,rfl,h3,h4,h5,h6,h7,h8,h9,h10,h11,h12,h13,h14,h15,h16,step hA h17⟩
 ·exact h.elim
def qEm(E:St→St→Prop)(P:Program)(w0:World)(S:Frm)(all:List Oper)(m:Nat)(K:X→St→Prop)(fuel:Nat):Prop:=∀(k:Nat) (rest:List Oper) (zs:List (List Nat)) (z:List Nat) (listed:Array Bool) (st:St) (id idc:Nat) (E2:Env) (a:Act) (w:World),
  all.drop k=rest→m≤k→k≤all.length→listed.size=all.length→qeV all m (qnE all []) k rest zs=true→(∀i,m≤i→i<k→listed.getD i false=true)→(∀i,k≤i→i<all.length→listed.getD i false=false)→
  (∀i,i<m→listed.getD i false=false→i∈z)→(∀j∈z,∃o,all[j]? =some o∧o.guard=none)→qgk all (fun i=>listed.getD i false)→cnt all.length (fun i=>listed.getD i false)≤fuel→
  qbP P all st z→qcD E P all m rest zs id st K→qcb w0 S idc ⟨E2,st.hp,st.nx,st.n⟩ a w→idc+32*cnt m (fun i=>listed.getD i false)≤id→
  (∀s,(∀j,j<m→listed.getD j false=false→qbp all j≠some s)→lkE E2 s=lkE st.env s)→wpAny P .any all.toArray (qmd w0 S K) fuel listed a w
theorem qmL(hTell:∀(s s':St) (a:Act) (w:World),E s s'→qcb w0 S s.nx s a w→qcb w0 S s'.nx s' a w)(hNA:S.free∨∀o∈all,qg2 o.op=true)(hback:qfI all 0=true)(hm:m≤all.length){K:X→St→Prop}{fuel:Nat}(ih:qEm E P w0 S all m K fuel)(k:Nat)(rest:List Oper)(zs:List (List Nat))(listed:Array Bool)(st:St)(id idc:Nat)(E2:Env)(a:Act)(w:World)
  (hd:all.drop k=rest) (hmk:m≤k) (hs:listed.size=all.length) (hchk:qeV all m (qnE all []) k rest zs=true) (h1:∀i,m≤i→i<k→listed.getD i false=true) (h2:∀i,k≤i→i<all.length→listed.getD i false=false)
  (hcl:qgk all (fun i=>listed.getD i false)) (h:qcD E P all m rest zs id st K) (hi:qcb w0 S idc ⟨E2,st.hp,st.nx,st.n⟩ a w) (hidc:idc≤id)
  (hE:∀s,(∀j,j<m→listed.getD j false=false→qbp all j≠some s)→lkE E2 s=lkE st.env s) (i:Nat) (him:¬i<m) (h3:i<all.length) (h4:listed.getD i false=false) (o:Oper) (ho:all[i]? =some o)
  (h5:∀e∈o.after,Region.binds .any e=true→listed.getD e.on false=true) (hclosed:qgk all (fun j=>(listed.setIfInBounds i true).getD j false)) (hcnt':cnt all.length (fun j=>(listed.setIfInBounds i true).getD j false)≤fuel):
  wpOp P all.toArray (qmd w0 S K) i (fun a w=>wpAny P .any all.toArray (qmd w0 S K) fuel (listed.setIfInBounds i true) a w) a w:=by
 cases rest with
 |nil=>
  have:=congrArg List.length hd
  simp at this
  have:=h1 i (by omega) (by omega)
  rw[h4]at this
  cases this
 |cons ok rest=>
  cases zs with
  |nil=>exact h.elim
  |cons zk zs=>
   have hklt:k<all.length:=by
    have:=congrArg List.length hd
    simp at this
    omega
   rw[List.drop_eq_getElem_cons hklt]at hd
   injection hd with hd1 hd2
   have hok:all[k]? =some ok:=by rw[List.getElem?_eq_getElem hklt,hd1]
   simp only[qeV,Bool.and_eq_true,List.all_eq_true]at hchk
   obtain⟨⟨⟨c1,c2⟩,c3⟩,c4⟩:=hchk
   have hik:i=k:=by
    rcases Nat.lt_trichotomy i k with hlt|hlt|hlt
    ·have:=h1 i (by omega) hlt;rw[h4]at this;cases this
    ·exact hlt
    ·exfalso
     have bound:∀(rest:List Oper) (zs:List (List Nat)) (k0:Nat),all.drop k0=rest→qeV all m (qnE all []) k0 rest zs=true→k0≤i→∀j,m≤j→j<i→TB all j i:=by
      intro rest
      induction rest with
      |nil=>intro zs k0 hd _ hk0 j _ _;have:=congrArg List.length hd;simp at this;omega
      |cons o1 rest ihr=>
       intro zs k0 hd hc hk0 j hj hji
       cases zs with
       |nil=>simp[qeV]at hc
       |cons z1 zs=>
        simp only[qeV,Bool.and_eq_true,List.all_eq_true]at hc
        obtain⟨⟨⟨e1,_⟩,e3⟩,e4⟩:=hc
        have hlt0:k0<all.length:=by
         have:=congrArg List.length hd
         simp at this
         omega
        rw[List.drop_eq_getElem_cons hlt0]at hd
        injection hd with _ hd2
        by_cases hki:k0=i
        ·subst hki
         rcases qmH (qr4 all) e1 hji with h|h
         ·exact h
         ·have:=(qgl (e3 j h)).1;omega
        ·exact ihr zs (k0+1) hd2 e4 (by omega) j hj hji
     have htb:=bound rest zs (k+1) hd2 c4 (by omega) k hmk hlt
     have:=qnG hcl ho h5 htb
     rw[h2 k (Nat.le_refl _) hklt]at this
     cases this
   subst hik
   rw[hok]at ho
   injection ho with ho;subst ho
   have hpend:∀j,j<m→listed.getD j false=false→j∈zk:=fun j hj hlj=>by
    rcases qmH (qr4 all) c1 (by omega:j<i)with h|h
    ·have:=qnG hcl hok h5 h;rw[hlj]at this;cases this
    ·exact h
   let A:Nat→Prop:=fun s=>∀j,j<m→listed.getD j false=false→qbp all j≠some s
   have hops:∀s∈qcB ok.op,A s:=fun s hsl j hj hlj hjs=>by
    obtain⟨_,oj,hoj,_,h7,_⟩:=qgl (c3 j (hpend j hj hlj))
    exact(h7 s (by simpa[qbp,hoj]using hjs)).1 hsl
   simp only[qcD]at h
   have key:∀(id:Nat) (st2:St) (a':Act) (w':World),(∃E',qfi (fun st'=>qbP P all st' zk∧qcD E P all m rest zs (id+32+32*m) st' K) .normal ⟨E',st2.hp,st2.nx,st2.n⟩∧(X.normal=.normal→∀s,(A s∨ok.dst=some s)→lkE st2.env s=lkE E' s))→qcb w0 S (id+32) st2 a' w'→
     wpAny P .any all.toArray (qmd w0 S K) fuel (listed.setIfInBounds i true) a' w':=fun id st2 a' w' hK hi'=>by
    obtain⟨E',⟨k1,k2⟩,k5⟩:=hK
    have hst2:∀s,(∀j,j<m→(listed.setIfInBounds i true).getD j false=false→qbp all j≠some s)→lkE st2.env s=lkE E' s:=fun s hs=>by
     refine k5 rfl s (.inl fun j hj hlj hjs=>hs j hj ?_ hjs)
     rw[qaU (by omega),if_neg (by omega)];exact hlj
    have hcm:=qA7 m (fun j=>(listed.setIfInBounds i true).getD j false)
    refine ih (i+1) rest zs zk _ ⟨E',st2.hp,st2.nx,st2.n⟩ (id+32+32*m) (id+32) st2.env a' w' hd2 (by omega) (by omega) (by simpa using hs) c4 (fun j hj hjk=>?_) (fun j hj hjl=>?_) (fun j hj hlj=>?_) (fun j hj=>?_) hclosed hcnt' k1 k2 hi' (by omega) hst2
    ·rw[qaU (by omega)];split;rfl;exact h1 j hj (by omega)
    ·rw[qaU (by omega),if_neg (by omega)];exact h2 j (by omega) hjl
    ·rw[qaU (by omega),if_neg (by omega)]at hlj
     exact hpend j hj hlj
    ·obtain⟨_,oj,hoj,hg,_⟩:=qgl (c3 j hj)
     exact⟨oj,hoj,hg⟩
   unfold wpOp
   simp only[List.getElem?_toArray,hok]
   have hg:ok.guard=none:=by simpa using c2
   rw[if_pos (by simp[Region.wanted,hg])]
   rcases h with h|h|h|h|⟨s1,hs1,h⟩
   ·have hrun:=qi1 (A:=A) (E:=st.env) (E2:=E2) (hp:=st.hp) (nx:=st.nx) (n:=st.n) (fun s hs=>hE s hs) hops h
    refine .inl (qiY (hNA.imp (fun h=>h) fun h=>h ok (List.mem_of_getElem? hok)) (hi.up (by omega:idc≤id)) hrun (key id) fun d chain w' hK _=>?_)
    obtain⟨E',hx,_⟩:=hK
    exact hx.elim
   ·have hrun:=qnK (A:=A) (E:=st.env) (E2:=E2) (hp:=st.hp) (nx:=st.nx) (n:=st.n) (fun s hs=>hE s hs) hops h
    exact .inl (qmI (hi.up (by omega:idc≤id)) hrun (key id))
   ·have hrun:=qnL (A:=A) (E:=st.env) (E2:=E2) (hp:=st.hp) (nx:=st.nx) (n:=st.n) (fun s hs=>hE s hs) hops h
    exact .inl (qmK (hi.up (by omega:idc≤id)) hrun (key id))
   ·have hrun:=qo5 (A:=A) (E:=st.env) (E2:=E2) (hp:=st.hp) (nx:=st.nx) (n:=st.n) (fun s hs=>hE s hs) hops h
    exact .inl (qo4 (hi.up (by omega:idc≤id)) hrun (key id))
   ·obtain⟨E3,hE3,hs2⟩:=hs1 A E2 (fun s hs j hj hlj=>hs j (hpend j hj hlj)) (fun s hs=>hE s hs)
    have hi1:qcb w0 S id ⟨E2,st.hp,id,st.n⟩ a w:=(hi.up hidc).look (fun s=>rfl) rfl rfl
    have hrun:=qi1 (A:=A) (E:=s1.env) (E2:=E3) (hp:=s1.hp) (nx:=s1.nx) (n:=s1.n) hE3 hops h
    refine .inl (qiY (hNA.imp (fun h=>h) fun h=>h ok (List.mem_of_getElem? hok)) (hTell _ _ a w hs2 hi1) hrun (key s1.nx) fun d chain w' hK _=>?_)
    obtain⟨E',hx,_⟩:=hK
    exact hx.elim
theorem qr8(hTell:∀(s s':St) (a:Act) (w:World),E s s'→qcb w0 S s.nx s a w→qcb w0 S s'.nx s' a w)(hNA:S.free∨∀o∈all,qg2 o.op=true)(hback:qfI all 0=true)(hA':∀i,i<m→∃o,all[i]? =some o∧ChkA all m i o)(hm:m≤all.length){K:X→St→Prop}:∀(fuel:Nat),qEm E P w0 S all m K fuel:=by
 intro fuel
 have atEnd:∀(k:Nat) (rest:List Oper) (zs:List (List Nat)) (listed:Array Bool) (st:St) (id idc:Nat) (E2:Env) (a:Act) (w:World),all.drop k=rest→m≤k→k≤all.length→(∀i,k≤i→i<all.length→listed.getD i false=false)→
   (∀i,i<all.length→listed.getD i false=true)→qcD E P all m rest zs id st K→qcb w0 S idc ⟨E2,st.hp,st.nx,st.n⟩ a w→idc+32*cnt m (fun i=>listed.getD i false)≤id→
   (∀s,(∀j,j<m→listed.getD j false=false→qbp all j≠some s)→lkE E2 s=lkE st.env s)→qmd w0 S K .normal a w:=by
  intro k rest zs listed st id idc E2 a w hd hmk hk h2 hall h hi hidc hE
  have hkl:k=all.length:=by
   rcases Nat.lt_or_ge k all.length with hlt|hge
   ·have:=h2 k (Nat.le_refl _) hlt;rw[hall k hlt]at this;cases this
   ·omega
  have hr:rest=[]:=by rw[←hd,hkl];simp
  subst hr
  cases zs with
  |nil=>
   refine⟨{st with nx:=id},h,qcb.look (qcb.up hi (show idc≤id by omega)) (fun s=>?_) rfl rfl⟩
   exact(hE s fun j hj hlj=>by rw[hall j (by omega)]at hlj;cases hlj).symm
  |cons _ _=>exact h.elim
 induction fuel with
 |zero=>
  intro k rest zs z listed st id idc E2 a w hd hmk hk hs hchk h1 h2 hU hz hcl hcnt hag h hi hidc hE
  have hall:∀i,i<all.length→listed.getD i false=true:=fun i hi=>qka (n:=all.length) (L:=fun i=>listed.getD i false) (by omega) i hi
  refine⟨List.eq_nil_iff_forall_not_mem.2 fun i hi=>?_,atEnd k rest zs listed st id idc E2 a w hd hmk hk h2 hall h hi hidc hE⟩
  obtain⟨h3,h4,_⟩:=qeA.1 hi
  rw[qho (by omega),hall i h3]at h4
  cases h4
 |succ fuel ih=>
  intro k rest zs z listed st id idc E2 a w hd hmk hk hs hchk h1 h2 hU hz hcl hcnt hag h hi hidc hE
  refine⟨fun hr=>atEnd k rest zs listed st id idc E2 a w hd hmk hk h2 (qh1 hs hback hr) h hi hidc hE,fun i hir=>?_⟩
  obtain⟨h3,h4,o,ho,h5⟩:=qeA.1 hir
  rw[qho (by omega)]at h4
  have hclosed:qgk all (fun j=>(listed.setIfInBounds i true).getD j false):=by
   intro j oj e hj hoj he hbe
   simp only[qaU (listed:=listed) (i:=i) (by omega:i<listed.size)]at hj ⊢
   split
   ·rfl
   ·split at hj
    ·rename_i hji
     subst hji
     rw[ho]at hoj
     injection hoj with hoj;subst hoj
     exact h5 e he hbe
    ·exact hcl j oj e hj hoj he hbe
  have hcnt':cnt all.length (fun j=>(listed.setIfInBounds i true).getD j false)≤fuel:=by
   have:=qkR (n:=all.length) (L:=fun j=>listed.getD j false) (L':=fun j=>(listed.setIfInBounds i true).getD j false) h3 h4 (by simp only[qaU (listed:=listed) (i:=i) (by omega:i<listed.size),if_pos]) (fun j hj=>by simp only[qaU (listed:=listed) (i:=i) (by omega:i<listed.size),if_neg hj])
   omega
  have uniq:∀j k s,j<m→k<m→k≠j→qbp all j=some s→qbp all k≠some s:=by
   intro j k s hj hk hkj hjs hks
   obtain⟨oj,hoj,hcj⟩:=hA' j hj
   exact hcj.dst k s hk hkj hks (by simpa[qbp,hoj]using hjs)
  by_cases him:i<m
  ·
   have hiz:=hU i him h4
   have hagi:=qjD hag i hiz
   obtain⟨o',ho',hg⟩:=hz i hiz
   rw[ho]at ho';injection ho' with ho';subst ho'
   unfold qt6 at hagi
   rw[ho]at hagi
   simp only at hagi
   obtain⟨o',ho',hca⟩:=hA' i him
   rw[ho]at ho';injection ho' with ho';subst ho'
   have hod:qbp all i=o.dst:=by simp[qbp,ho]
   let A:Nat→Prop:=fun s=>∀j,j<m→listed.getD j false=false→qbp all j≠some s
   have hops:∀s∈qcB o.op,A s:=fun s hsl j hj hlj hjs=>by
    obtain⟨e,he,hbe,hej⟩:=qgi (hca.slot j s hj hjs hsl)
    have:=h5 e he hbe
    rw[hej,hlj]at this
    cases this
   have hrun:=qi1 (A:=A) (E:=st.env) (E2:=E2) (hp:=st.hp) (nx:=st.nx) (n:=st.n) (fun s hs=>hE s hs) hops (hagi idc)
   unfold wpOp
   simp only[List.getElem?_toArray,ho]
   rw[if_pos (by simp[Region.wanted,hg])]
   refine .inl (qiY (hNA.imp (fun h=>h) fun h=>h o (List.mem_of_getElem? ho)) hi hrun (fun st2 a' w' hK hi'=>?_) fun d chain w' hK _=>?_)
   ·obtain⟨E',⟨_,k2,k3,k4⟩,k5⟩:=hK
    have hst2:∀s,(∀j,j<m→(listed.setIfInBounds i true).getD j false=false→qbp all j≠some s)→lkE st2.env s=lkE st.env s:=fun s hs=>by
     have hA:A s∨o.dst=some s:=by
      by_cases hds:o.dst=some s
      ·exact .inr hds
      ·left
       intro j hj hlj hjs
       by_cases hji:j=i
       ·subst hji;exact hds (hod▸hjs)
       ·exact hs j hj (by rw[qaU (by omega),if_neg hji];exact hlj) hjs
     rw[k5 rfl s hA]
     exact k4 s
    have hc2:cnt m (fun j=>(listed.setIfInBounds i true).getD j false)+1=cnt m (fun j=>listed.getD j false):=qkR (n:=m) him h4 (by simp only[qaU (listed:=listed) (i:=i) (by omega:i<listed.size),if_pos]) (fun j hj=>by simp only[qaU (listed:=listed) (i:=i) (by omega:i<listed.size),if_neg hj])
    refine ih k rest zs z _ st id (idc+32) st2.env a' w' hd hmk hk (by simpa using hs) hchk (fun j hj hjk=>?_) (fun j hj hjl=>?_) (fun j hj hlj=>?_) hz hclosed hcnt' hag h (qcb.look hi' (fun s=>rfl) k2.symm k3.symm) (by omega) hst2
    ·rw[qaU (by omega)];split;rfl;exact h1 j hj hjk
    ·rw[qaU (by omega),if_neg (by omega)];exact h2 j hj hjl
    ·rw[qaU (by omega)]at hlj
     split at hlj
     ·cases hlj
     ·exact hU j hj hlj
   ·obtain⟨E',⟨hx,_⟩,_⟩:=hK
    cases hx
  ·exact qmL hTell hNA hback hm ih k rest zs listed st id idc E2 a w hd hmk hs hchk h1 h2 hcl h hi (by omega) hE i him h3 h4 o ho h5 hclosed hcnt'
theorem qmM(hTell:∀(s s':St) (a:Act) (w:World),E s s'→qcb w0 S s.nx s a w→qcb w0 S s'.nx s' a w)(hNA:S.free∨∀o∈all,qg2 o.op=true){st:St}{K:X→St→Prop}{zs:List (List Nat)}(hc:qeW all m zs=true)(hi:qcb w0 S st.nx st a w)(h:qv1 E P all m zs st K):wpAny P .any all.toArray (qmd w0 S K) all.length (Array.replicate all.length false) a w:=by
 unfold qeW at hc
 simp only[Bool.and_eq_true,decide_eq_true_eq,List.all_eq_true,List.mem_range]at hc
 obtain⟨⟨⟨hm,hback⟩,hline⟩,hA⟩:=hc
 have hA':∀i,i<m→∃o,all[i]? =some o∧ChkA all m i o:=fun i hi=>qoY (hA i hi)
 obtain⟨hdom,h⟩:=h
 simp only[List.all_eq_true,decide_eq_true_eq]at hdom
 have hkind:∀i o,i<m→all[i]? =some o→qhZ o.op=true:=fun i o hi ho=>by
  obtain⟨o',ho',hc⟩:=hA' i hi
  rw[ho]at ho';injection ho' with ho';subst ho'
  exact hc.kind
 obtain⟨dv,nb,htr,hK⟩:=qhn (P:=P) (all:=all) (qg6:=st.env) (hp0:=st.hp) (id0:=st.nx) (m:=m) (K:=fun _ st'=>qcD E P all m (all.drop m) zs st'.nx st' K) hm hkind m 0 (fun _=>.undef) (fun _=>[]) st (by omega) rfl rfl rfl
  (fun j o hj=>by omega) (fun j hj=>by omega) (by simpa using h)
 simp only at hK
 have hrange:∀j b,j<m→(lkH (nb j) b).isSome→st.nx+32*j≤b∧b<st.nx+32*j+32:=fun j b hj hb=>by
  obtain⟨o,ho,_⟩:=hA' j hj
  exact qoX (htr.ran j o hj ho) hb
 have hhp0:∀b,(lkH st.hp b).isSome→b<st.nx:=fun b hb=>by
  obtain⟨x,hx,rfl⟩:=qe4 hb
  exact hdom x hx
 have hlt:∀i b,i≤m→(lkH (qeP st.hp nb i) b).isSome→b<st.nx+32*i:=fun i b hi hb=>by
  rcases qh2 hb with h|⟨j,hj,h⟩
  ·have:=hhp0 b h;omega
  ·have:=hrange j b (by omega) h;omega
 have hsub1:∀i,i<m→Sub (lkH (qeP st.hp nb i)) (lkH (qeP st.hp nb (i+1))):=fun i hi b blk hb=>by
  have h1:=hlt i b (by omega) (by rw[hb];rfl)
  simp only[qeP,qa6]
  cases hn:lkH (nb i) b with
  |some blk'=>
   have:=hrange i b hi (by rw[hn];rfl)
   omega
  |none=>simpa using hb
 have hsub:∀d i,i+d=m→Sub (lkH (qeP st.hp nb i)) (lkH (qeP st.hp nb m)):=by
  intro d
  induction d with
  |zero=>intro i hi;rw[show i=m by omega];exact fun b blk h=>h
  |succ d ih=>intro i hi b blk hb;exact ih (i+1) (by omega) b blk (hsub1 i (by omega) b blk hb)
 have hnbA:∀i,i<m→∀b blk,lkH (nb i) b=some blk→lkH (qeP st.hp nb m) b=some blk:=fun i hi b blk hb=>
  hsub (m-(i+1)) (i+1) (by omega) b blk (by simp only[qeP,qa6,hb];rfl)
 have hflat:∀i,i<m→∀b blk,lkH (nb i) b=some blk→blk.flat=true→qan blk.rows=true:=fun i hi b blk hb=>by
  obtain⟨o,ho,_⟩:=hA' i hi
  rcases qkQ (htr.ran i o hi ho)with h|h
  ·exact qr1 h hb
  ·rw[h]at hb;cases hb
 have hran:∀i o,i<m→all[i]? =some o→Ran P all o (st.nx+32*i) (qc5 all st.env dv i) (lkH (qeP st.hp nb m)) (dv i) (nb i):=fun i o hi ho=>by
  have:=htr.ran i o hi ho
  unfold Ran at this ⊢
  have hmono:= @qnD P (qac (qc5 all st.env dv i)) (qac (qc5 all st.env dv i)) _ _ (st.nx+32*i) o.op (dv i) (nb i) (hsub (m-i) i (by omega)) (fun _ _=>rfl)
  split at this
  ·exact hmono this
  ·obtain⟨r,h1,h2⟩:=this
   refine⟨r,h1,?_⟩
   split at h2
   ·rename_i hr;rw[if_pos hr];exact hmono h2
   ·rename_i hr;rw[if_neg hr];exact h2
 have hdisj:∀i,i<m→∀j,j<m→j≠i→∀b,(lkH (nb j) b).isSome→lkH (nb i) b=none:=fun i hi j hj hji b hb=>by
  cases hn:lkH (nb i) b with
  |none=>rfl
  |some blk=>
   have h1:=hrange i b hi (by rw[hn];rfl)
   have h2:=hrange j b hj hb
   omega
 have hbig:∀i,i<m→∀b,st.nx+32*m≤b→lkH (nb i) b=none:=fun i hi b hb=>by
  cases hn:lkH (nb i) b with
  |none=>rfl
  |some blk=>have h1:=hrange i b hi (by rw[hn];rfl);omega
 have uniq:∀j k s,j<m→k<m→k≠j→qbp all j=some s→qbp all k≠some s:=by
  intro j k s hj hk hkj hjs hks
  obtain⟨oj,hoj,hcj⟩:=hA' j hj
  exact hcj.dst k s hk hkj hks (by simpa[qbp,hoj]using hjs)
 have hG0:G w0 S all m st.nx st.n dv nb st.env (lkH (qeP st.hp nb m)) (fun _=>false) a w:=by
  obtain⟨pu,ow,m1,m2,m3,m4,m5,m6,m7⟩:=hi
  refine⟨pu,ow,m1.addPends (fun b blk hb=>hsub m 0 (by omega) b blk hb) (fun b blk hb hb0=>?_),(fun j s _ h=>Bool.noConfusion h),fun s _=>m2 s,m3,m4,fun j b hj _ hb=>m5 b ?_,fun b hb=>m5 b (by omega),m6,m7⟩
  ·rcases qh2 (by rw[hb];rfl:(lkH (qeP st.hp nb m) b).isSome)with h|⟨j,hj,h⟩
   ·rw[hb0]at h;cases h
   ·have h1:=hrange j b hj h
    obtain⟨blk',hb'⟩:=Option.isSome_iff_exists.1 h
    have:=hnbA j hj b blk' hb'
    rw[hb]at this
    injection this with this;subst this
    exact⟨m5 b (by omega),hflat j hj b blk hb'⟩
  ·have h1:=hrange j b hj hb;omega
 have stateOf:∀(listed:Array Bool) (a:Act) (w:World),G w0 S all m st.nx st.n dv nb st.env (lkH (qeP st.hp nb m)) (fun i=>listed.getD i false) a w→
   ∃E2,qcb w0 S (st.nx+32*m) ⟨E2,qeP st.hp nb m,st.nx+32*m,st.n⟩ a w∧∀s,(∀j,j<m→listed.getD j false=false→qbp all j≠some s)→lkE E2 s=lkE (qc5 all st.env dv m) s:=by
  intro listed a w ⟨pu,ow,g1,g2,g3,g4,g5,g6,g7,g8,g9⟩
  let un:List Nat:=(List.range m).filterMap fun j=>if listed.getD j false=false then qbp all j else none
  have hun:∀s,s∈un↔∃j,j<m∧listed.getD j false=false∧qbp all j=some s:=by
   intro s
   simp only[un,List.mem_filterMap,List.mem_range]
   constructor
   ·rintro⟨j,hj,h⟩
    split at h
    ·rename_i hl;exact⟨j,hj,hl,h⟩
    ·cases h
   ·rintro⟨j,hj,hl,h⟩
    exact⟨j,hj,by rw[if_pos hl];exact h⟩
  have hlk:∀(l:List Nat) (E:Env) (s:Nat),lkE (l.map (fun s=>(s,D.undef))++E) s=if s∈l then .undef else lkE E s:=by
   intro l
   induction l with
   |nil=>intro E s;simp
   |cons t l ih=>
    intro E s
    simp only[List.map_cons,List.cons_append,lkE,List.mem_cons]
    by_cases h:s=t
    ·simp[h]
    ·rw[if_neg h,ih];simp[h]
  refine⟨un.map (fun s=>(s,D.undef))++qc5 all st.env dv m,⟨pu,ow,g1,fun s=>?_,g4,g5,g7,g8,g9⟩,fun s hs=>?_⟩
  ·simp only[hlk]
   split
   ·exact .pure _ _ (.undef _)
   ·rename_i hsu
    by_cases hex:∃j,j<m∧qbp all j=some s
    ·obtain⟨j,hj,hjs⟩:=hex
     rw[qh0 hjs hj fun k hk hkj=>uniq j k s hj hk hkj hjs]
     refine g2 j s hj ?_ hjs
     cases hl:listed.getD j false with
     |true=>exact hl
     |false=>exact(hsu ((hun s).2 ⟨j,hj,hl,hjs⟩)).elim
    ·have hno:∀j,j<m→qbp all j≠some s:=fun j hj h=>hex ⟨j,hj,h⟩
     rw[qez hno]
     exact g3 s hno
  ·rw[hlk,if_neg]
   intro hsu
   obtain⟨j,hj,hl,hjs⟩:=(hun s).1 hsu
   exact hs j hj hl hjs
 have finish:∀(fuel:Nat) (listed:Array Bool) (a:Act) (w:World),listed.size=all.length→cnt all.length (fun i=>listed.getD i false)≤fuel→qgk all (fun i=>listed.getD i false)→(∀i,i<m→listed.getD i false=true)→
   (∀i,m≤i→i<all.length→listed.getD i false=false)→G w0 S all m st.nx st.n dv nb st.env (lkH (qeP st.hp nb m)) (fun i=>listed.getD i false) a w→wpAny P .any all.toArray (qmd w0 S K) fuel listed a w:=by
  intro fuel listed a w hs hcnt hcl hall hB hG
  obtain⟨E2,hi2,hE⟩:=stateOf listed a w hG
  have hz:∀n,(∀i,i<n→listed.getD i false=true)→cnt n (fun i=>listed.getD i false)=0:=by
   intro n
   induction n with
   |zero=>intro _;rfl
   |succ n ih=>intro h;simp only[cnt];rw[ih fun i hi=>h i (by omega),if_pos (h n (by omega))]
  exact qr8 hTell hNA hback hA' hm fuel m (all.drop m) zs [] listed _ _ _ E2 a w rfl (Nat.le_refl _) hm hs hline (fun j hj hj'=>by omega) hB (fun j hj hl=>by rw[hall j hj]at hl;cases hl) (fun j hj=>by simp at hj) hcl hcnt trivial hK hi2 (by rw[hz m hall];exact Nat.le_refl _) hE
 suffices H:∀(fuel:Nat) (listed:Array Bool) (a:Act) (w:World),listed.size=all.length→cnt all.length (fun i=>listed.getD i false)≤fuel→qgk all (fun i=>listed.getD i false)→
   (∀i,m≤i→i<all.length→listed.getD i false=false)→G w0 S all m st.nx st.n dv nb st.env (lkH (qeP st.hp nb m)) (fun i=>listed.getD i false) a w→wpAny P .any all.toArray (qmd w0 S K) fuel listed a w by
  refine H _ _ a w (by simp) ?_ ?_ ?_ ?_
  ·have:∀n (L:Nat→Bool),cnt n L≤n:=by
    intro n L
    induction n with
    |zero=>simp[cnt]
    |succ n ih=>simp only[cnt];split<;>omega
   exact this _ _
  ·intro i o e h
   simp only[Array.getD_eq_getD_getElem?,Array.getElem?_replicate]at h
   split at h<;>cases h
  ·intro i _ _
   simp only[Array.getD_eq_getD_getElem?,Array.getElem?_replicate]
   split<;>rfl
  ·have:(fun i=>(Array.replicate all.length false).getD i false)=fun _=>false:=by
    funext i
    simp only[Array.getD_eq_getD_getElem?,Array.getElem?_replicate]
    split<;>rfl
   rw[this]
   exact hG0
 intro fuel
 induction fuel with
 |zero=>
  intro listed a w hs hcnt hcl hB hG
  exact finish 0 listed a w hs hcnt hcl (fun i hi=>qka (n:=all.length) (L:=fun i=>listed.getD i false) (by omega) i (by omega)) hB hG
 |succ fuel ih=>
  intro listed a w hs hcnt hcl hB hG
  by_cases hall:∀i,i<m→listed.getD i false=true
  ·exact finish _ listed a w hs hcnt hcl hall hB hG
  ·refine⟨fun hr=>(hall fun i hi=>qh1 hs hback hr i (by omega)).elim,fun i hi=>?_⟩
   obtain⟨h1,h2,o,ho,h3⟩:=qeA.1 hi
   rw[qho (by omega)]at h2
   have hclosed:qgk all (fun j=>(listed.setIfInBounds i true).getD j false):=by
    intro j oj e hj hoj he hbe
    simp only[qaU (listed:=listed) (i:=i) (by omega:i<listed.size)]at hj ⊢
    split
    ·rfl
    ·split at hj
     ·rename_i hji
      subst hji
      rw[ho]at hoj
      injection hoj with hoj;subst hoj
      exact h3 e he hbe
     ·exact hcl j oj e hj hoj he hbe
   have hcnt':cnt all.length (fun j=>(listed.setIfInBounds i true).getD j false)≤fuel:=by
    have:=qkR (n:=all.length) (L:=fun j=>listed.getD j false) (L':=fun j=>(listed.setIfInBounds i true).getD j false) h1 h2 (by simp only[qaU (listed:=listed) (i:=i) (by omega:i<listed.size),if_pos]) (fun j hj=>by simp only[qaU (listed:=listed) (i:=i) (by omega:i<listed.size),if_neg hj])
    omega
   by_cases him:i<m
   ·refine qA5 (qg6:=st.env) (hp:=lkH (qeP st.hp nb m)) (L:=fun i=>listed.getD i false) hG ho hA' him h2 (fun j hb=>?_) (fun s hno _=>(qez fun j hj=>hno j (by omega)).symm) (hran i o him ho) (hnbA i him) (hdisj i him) (hbig i him) (htr.dst i him) fun a' w' hG'=>?_
    ·obtain⟨e,he,hbe,rfl⟩:=qgi hb
     exact⟨h3 e he hbe,by have:=qcC hback ho he hbe;omega⟩
    ·have hset:(fun j=>(listed.setIfInBounds i true).getD j false)=fun j=>if j=i then true else listed.getD j false:=funext fun j=>qaU (by omega)
     refine ih _ a' w' (by simpa using hs) hcnt' hclosed ?_ ?_
     ·intro j hj hj'
      rw[qaU (by omega),if_neg (by omega)]
      exact hB j hj hj'
     ·rw[hset]
      exact hG'
   ·obtain⟨E2,hi2,hE⟩:=stateOf listed a w hG
    exact qmL hTell hNA hback hm (qr8 hTell hNA hback hA' hm fuel) m (all.drop m) zs listed _ _ _ E2 a w rfl (Nat.le_refl _) hs hline (fun j hj hj'=>by omega) hB hcl hK hi2 (Nat.le_refl _) hE i him h1 h2 o ho h3 hclosed hcnt'
end
def qcr(st st':St):Prop:=∀(w0:World) (S:Frm) (a:Act) (w:World),S.free→qcb w0 S st.nx st a w→qcb w0 S st'.nx st' a w
def qo6(f:St→Prop)(K:X→St→Prop):X→St→Prop
 |.normal,st=>f st
 |x,st=>K x st
def qea(id:Nat)(K:X→St→Prop):X→St→Prop
 |.exit id',st=>if id'=id then K .normal st else K (.exit id') st
 |x,st=>K x st
def qdk:Code→Bool
 |.region _ ops _=>ops.toList.all fun o=>qg2 o.op
 |.seq a b=>qdk a&&qdk b
 |.cond _ a b=>qdk a&&qdk b
 |.block _ c=>qdk c
 |.loop c=>qdk c
 |.scope c=>qdk c
 |_=>true
def qh3(E:St→St→Prop)(P:Program)(all:List Oper):List Oper→Nat→St→(X→St→Prop)→Prop
 |[],_,_,_=>False
 |o::rest,id,st,K=>(o.guard=none∧qap P o.op id o.dst st fun x st'=>match x with
   |.normal=>qh3 E P all rest (id+32) st' K
   |x=>K x st')∨∃s1,E {st with nx:=id} s1∧qaP P all (o::rest) s1.nx s1 K
def evG(E:St→St→Prop)(P:Program):Code→(X→St→Prop)→St→Prop
 |.skip,K,st=>K .normal st
 |.label _,K,st=>K .normal st
 |.region _ ops false,K,st=>qaP P ops.toList ops.toList st.nx st K∨qb0 P ops.toList ops.toList st.nx st K∨qh3 E P ops.toList ops.toList st.nx st K
 |.region _ ops true,K,st=>(∃m,qgh ops.toList m=true∧qA6 P ops.toList m st K)∨(∃m zs,qeW ops.toList m zs=true∧qB7 P ops.toList m zs st K)∨
   ∃m zs,qeW ops.toList m zs=true∧qv1 E P ops.toList m zs st K
 |.seq a b,K,st=>evG E P a (qo6 (evG E P b K) K) st∨∃s1,evG E P a (qo6 (fun st'=>E st' s1) K) st∧evG E P b K s1
 |.cond c a b,K,st=>∃t,qac st.env c=.bool t∧(t=true→evG E P a K st)∧(t=false→evG E P b K st)
 |.block id c,K,st=>evG E P c (qea id K) st
 |.loop c,K,st=>∃(I:Nat→St→Prop) (n:Nat),(∃s,E st s∧I n s)∧∀n s,I n s→evG E P c (qo6 (fun st'=>∃n' s',n'<n∧E st' s'∧I n' s') K) s
 |.exit id,K,st=>K (.exit id) st
 |.ret,K,st=>K .ret st
 |.scope c,K,st=>evG E P c K st
 |_,_,_=>False
abbrev ev(P:Program)(c:Code)(K:X→St→Prop)(st:St):Prop:=evG qcr P c K st
theorem qbr{K K':X→St→Prop}(h:∀x st,K x st→K' x st){st:St}{dst:Option Tmp}{d:D}{env:Env}{hp:Hp}(hk:qcJ st dst d env hp K):qcJ st dst d env hp K':=⟨hk.1,h _ _ hk.2⟩
theorem qcU{P:Program}{K K':X→St→Prop}(h:∀x st,K x st→K' x st){o:Op}{id:Nat}{dst:Option Tmp}{st:St}(hk:qap P o id dst st K):qap P o id dst st K':=by
 unfold qap at hk ⊢
 split at hk
 ·split at hk
  ·exact qbr h hk
  ·exact hk
 ·unfold qf1 at hk ⊢
  split at hk
  ·obtain⟨args',out,h1,h2,h3,h4⟩:=hk
   refine⟨args',out,h1,h2,h3,?_⟩
   cases out with
   |ret r=>exact⟨h4.1,qbr h h4.2⟩
   |pan d=>exact h _ _ h4
  ·exact hk
 ·split at hk
  ·split at hk
   ·rename_i hargs hts htt
    rw[if_pos htt]
    split at hk
    ·exact qbr h hk
    ·exact qbr h hk
    ·exact hk
   ·exact hk.elim
  ·exact hk
 ·split at hk
  ·exact qbr h hk
  ·exact hk
 ·split at hk
  ·exact qbr h hk
  ·split at hk
   ·exact qbr h hk
   ·split at hk
    ·exact fun b hb=>qbr h (hk b hb)
    ·unfold qqL at hk ⊢
     split at hk
     ·obtain⟨t,d,h1,h2,h3⟩:=hk
      exact⟨t,d,h1,h2,h _ _ h3⟩
     ·exact hk
theorem qco{P:Program}{all:List Oper}:∀(l:List Oper) {K K':X→St→Prop} (_:∀x st,K x st→K' x st) {id:Nat} {st:St},qaP P all l id st K→qaP P all l id st K'
 |[],_,_,h,_,_,hk=>h _ _ hk
 |o::rest,K,K',h,id,st,hk=>by
  have hrun:qap P o.op id o.dst st (fun x st'=>match x with|.normal=>qaP P all rest (id+32) st' K|x=>K x st')→qap P o.op id o.dst st (fun x st'=>match x with|.normal=>qaP P all rest (id+32) st' K'|x=>K' x st'):=
   qcU fun x st hx=>by cases x<;>first|exact qco rest h hx|exact h _ _ hx
  unfold qaP at hk ⊢
  simp only at hk ⊢
  split at hk
  ·exact hrun hk
  ·split at hk
   ·exact⟨fun hb=>hrun (hk.1 hb),fun hb=>⟨(hk.2 hb).1,qco rest h (hk.2 hb).2⟩⟩
   ·exact⟨hk.1,qco rest h hk.2⟩
   ·exact hk
section
variable {P:Program}{w w' w0:World}{S:Frm}{a:Act}
theorem qcb.heap{id:Nat}{st:St}(hi:qcb w0 S id st a w)(hh:w'.heap=w.heap)(hb:Below w0.heap.size w0 w→Below w0.heap.size w0 w'):qcb w0 S id st a w':=by
 obtain⟨pu,ow,m1,m2,m3,m4,m5,m6,m7⟩:=hi
 have he:Ext w pu ow w' pu ow:=⟨fun g hg=>⟨hg,by rw[hh]⟩,fun _=>.inr (.inl rfl)⟩
 exact⟨pu,ow,⟨fun b blk hb=>(m1.blk b blk hb).mono he fun g _=>by rw[hh],m1.none,m1.injO,m1.ownO,fun g hg=>by rw[hh];exact m1.zone g hg⟩,m2.mono he,hb m3,m4,m5,m6,m7.1,m7.2.step he fun _=>.inr rfl⟩
theorem qkT{c:Code}{Q:Exit→Act→World→Prop}:∀{n:Nat} {a:Act} {w:World},Code.rounds P c Q n a w→Code.rounds P c Q (n+1) a w
 |0,_,_,h=>h.elim
 |n+1,a,w,h=>wp_mono h fun e a w he=>by
  cases e<;>first|exact qkT he|exact he
theorem qv2{c:Code}{Q:Exit→Act→World→Prop}{n k:Nat}(hk:n≤k){a:Act}{w:World}(h:Code.rounds P c Q n a w):Code.rounds P c Q k a w:=by
 induction hk with
 |refl=>exact h
 |step _ ih=>exact qkT ih
theorem qo7{E:St→St→Prop}(hE:∀(s s':St) (a:Act) (w:World),E s s'→qcb w0 S s.nx s a w→qcb w0 S s'.nx s' a w){all:List Oper}{K:X→St→Prop}:∀(l:List Oper) (id:Nat) (st:St) (a:Act) (w:World),(S.free∨∀o∈l,qg2 o.op=true)→qcb w0 S id st a w→qh3 E P all l id st K→wpList P all.toArray (qmd w0 S K) l a w
 |[],_,_,_,_,_,_,h=>h.elim
 |o::rest,id,st,a,w,hNA,hi,h=>by
  have hNA1:S.free∨qg2 o.op=true:=hNA.imp (fun h=>h) fun h=>h o (by simp)
  have hNA2:S.free∨∀o∈rest,qg2 o.op=true:=hNA.imp (fun h=>h) fun h o ho=>h o (by simp[ho])
  rcases h with⟨hg,h⟩|⟨s1,h1,h⟩
  ·unfold wpList
   rw[if_pos (by simp[Region.wanted,hg])]
   exact .inl (qiY hNA1 hi h (fun st' a' w' hK hi'=>qo7 hE rest _ st' a' w' hNA2 hi' hK) fun d chain w' hK hp=>⟨d,st,hK,hi.defers,hp⟩)
  ·exact qgJ (o::rest) _ s1 a w hNA (hE _ s1 a w h1 hi) h
theorem qr9{E:St→St→Prop}{all:List Oper}{m:Nat}:∀(l:List Oper) (zs:List (List Nat)) {K:X→St→Prop} {id:Nat} {st:St},qdw P all m l zs id st K→qcD E P all m l zs id st K
 |[],[],_,_,_,h=>h
 |[],_::_,_,_,_,h=>h.elim
 |_::_,[],_,_,_,h=>h.elim
 |o::rest,z::zs,K,id,st,h=>.inl (qcU (fun x st hx=>by
   cases x with
   |normal=>exact⟨hx.1,qr9 rest zs hx.2⟩
   |_=>exact hx) h)
theorem qsa{E:St→St→Prop}(hmix:P.follows .mixedOrders=true)(hE:∀(s s':St) (a:Act) (w:World),E s s'→qcb w0 S s.nx s a w→qcb w0 S s'.nx s' a w):∀(c:Code) (K:X→St→Prop) (st:St) (a:Act) (w:World),(S.free∨qdk c=true)→qcb w0 S st.nx st a w→evG E P c K st→c.wp P (qmd w0 S K) a w:=by
 intro c
 induction c with
 |skip=>exact fun K st a w _ hi h=>wp_skip ⟨st,h,hi⟩
 |label l=>exact fun K st a w _ hi h=>wp_label ⟨st,h,hi⟩
 |region id ops draw=>
  intro K st a w hNA hi h
  have hNA':S.free∨∀o∈ops.toList,qg2 o.op=true:=hNA.imp (fun h=>h) fun h=>List.all_eq_true.1 h
  cases draw with
  |false=>
   refine wp_region_list ?_
   have:=h.elim (qgJ (all:=ops.toList) ops.toList st.nx st a w hNA' hi) (Or.elim · (qdj (all:=ops.toList) ops.toList st.nx st a w hNA' hi) (qo7 hE (all:=ops.toList) ops.toList st.nx st a w hNA' hi))
   simpa using this
  |true=>
   refine wp_region_any hmix ?_
   have hi':qcb w0 S st.nx st a {w with drawn:=w.drawn+1}:=hi.heap rfl fun hb=>⟨hb.os,hb.tape,hb.output,hb.size,hb.block,hb.drawn.step rfl⟩
   rcases h with⟨m,hc,h⟩|⟨m,zs,hc,h⟩|⟨m,zs,hc,h⟩
   ·have:=qvX (all:=ops.toList) hNA' hc hi' h
    simpa using this
   ·have:=qmM (all:=ops.toList) hE hNA' hc hi' ⟨h.1,qco _ (fun x st hx=>by
     cases x with
     |normal=>exact qr9 _ _ hx
     |_=>exact hx) h.2⟩
    simpa using this
   ·have:=qmM (all:=ops.toList) hE hNA' hc hi' h
    simpa using this
 |seq x y ihx ihy=>
  intro K st a w hNA hi h
  have hN1:S.free∨qdk x=true:=hNA.imp (fun h=>h) fun h=>by simp only[qdk,Bool.and_eq_true]at h;exact h.1
  have hN2:S.free∨qdk y=true:=hNA.imp (fun h=>h) fun h=>by simp only[qdk,Bool.and_eq_true]at h;exact h.2
  rcases h with h|⟨s1,h,h1⟩
  ·refine wp_seq (wp_mono (ihx _ st a w hN1 hi h) fun e a w he=>?_)
   cases e with
   |normal=>obtain⟨st',h',hi'⟩:=he;exact ihy K st' a w hN2 hi' h'
   |_=>exact he
  ·refine wp_seq (wp_mono (ihx _ st a w hN1 hi h) fun e a w he=>?_)
   cases e with
   |normal=>obtain⟨st',h',hi'⟩:=he;exact ihy K s1 a w hN2 (hE _ _ _ _ h' hi') h1
   |_=>exact he
 |cond c x y ihx ihy=>
  intro K st a w hNA hi h
  have hN1:S.free∨qdk x=true:=hNA.imp (fun h=>h) fun h=>by simp only[qdk,Bool.and_eq_true]at h;exact h.1
  have hN2:S.free∨qdk y=true:=hNA.imp (fun h=>h) fun h=>by simp only[qdk,Bool.and_eq_true]at h;exact h.2
  obtain⟨t,hc,h1,h2⟩:=h
  obtain⟨pu,ow,he⟩:=hi.env
  have hv:=he.eval c
  rw[hc]at hv
  exact wp_cond_split hv.bool_inv (fun ht=>ihx K st a w hN1 hi (h1 ht)) fun ht=>ihy K st a w hN2 hi (h2 ht)
 |block id c ih=>
  intro K st a w hNA hi h
  refine wp_block (wp_mono (ih _ st a w hNA hi h) fun e a w he=>?_)
  cases e with
  |exit id'=>
   obtain⟨st',h',hi'⟩:=he
   simp only[qea]at h'
   simp only[Exit.inBlock]
   split at h'
   ·rename_i hid;rw[if_pos hid];exact⟨st',h',hi'⟩
   ·rename_i hid;rw[if_neg hid];exact⟨st',h',hi'⟩
  |_=>exact he
 |loop c ih=>
  intro K st a w hNA hi h
  obtain⟨I,n,⟨s,hes,hI⟩,hround⟩:=h
  refine wp_loop_rounds (n+1) ?_
  have key:∀n s a w,I n s→qcb w0 S s.nx s a w→Code.rounds P c (qmd w0 S K) (n+1) a w:=by
   intro n
   induction n using Nat.strongRecOn with
   |ind n ihn=>
    intro s a w hI hi
    rw[rounds_succ]
    refine wp_mono (ih _ s a w hNA hi (hround n s hI)) fun e a w he=>?_
    cases e with
    |normal=>
     obtain⟨st',⟨n',s',hlt,hes,hI'⟩,hi'⟩:=he
     exact qv2 (by omega) (ihn n' hlt s' a w hI' (hE _ _ _ _ hes hi'))
    |_=>exact he
  exact key n s a w hI (hE _ _ _ _ hes hi)
 |exit id=>exact fun K st a w _ hi h=>wp_exit ⟨st,h,hi⟩
 |ret=>exact fun K st a w _ hi h=>wp_ret ⟨st,h,hi⟩
 |scope c ih=>
  intro K st a w hNA hi h
  refine wp_scope_straight (wp_mono (ih K st a w hNA hi h) fun e a w he=>?_)
  cases e with
  |goto l=>exact he.elim
  |_=>exact he
 |_=>exact fun K st a w _ hi h=>h.elim
theorem qEn(hmix:P.follows .mixedOrders=true)(c:Code)(K:X→St→Prop)(st:St)(a:Act)(w:World)(hS:S.free)(hi:qcb w0 S st.nx st a w)(h:ev P c K st):c.wp P (qmd w0 S K) a w:=
 qsa hmix (fun _ _ _ _ he hi=>he _ _ _ _ hS hi) c K st a w (.inl hS) hi h
end
abbrev Sg:=List (Nat×Nat)
def lkS:Sg→Nat→Option Nat
 |[],_=>none
 |(a,b)::r,x=>if x=a then some b else lkS r x
def lkI:Sg→Nat→Option Nat
 |[],_=>none
 |(a,b)::r,y=>if y=b then some a else lkI r y
mutual
def ren(g:Sg):D→D
 |.os b off len=>match lkS g b with
  |some b'=>.os b' off len
  |none=>.undef
 |.op b row off=>match lkS g b with
  |some b'=>.op b' row off
  |none=>.undef
 |.om b=>match lkS g b with
  |some b'=>.om b'
  |none=>.undef
 |.agg cs=>.agg (qhb g cs)
 |.tup cs=>.tup (qhb g cs)
 |.clo fn xs ys=>.clo fn (qhb g xs) (qhb g ys)
 |.iface t d=>.iface t (ren g d)
 |d=>d
def qhb(g:Sg):List D→List D
 |[]=>[]
 |d::ds=>ren g d::qhb g ds
end
def qFY(g:Sg)(blk:Blk):Blk:=if blk.flat then blk else⟨blk.k,false,blk.rows.map (qhb g)⟩
def qkU(g:Sg)(hp:Hp):Sg→Hp
 |[]=>[]
 |(b,b')::r=>match lkH hp b with
  |some blk=>(b',qFY g blk)::qkU g hp r
  |none=>qkU g hp r
def qA8(g:Sg)(env:Env)(ks:List Nat):Env:=ks.map fun s=>(s,ren g (lkE env s))
def qEo(ns:Sg):Env:=ns.map fun(s,b)=>(s,.os b 0 0)
def qEp(k:Nat)(ns:Sg):Hp:=ns.map fun(_,b)=>(b,⟨k,true,[]⟩)
def qub(g ns:Sg)(k:Nat)(ks:List Nat)(nx:Nat)(st:St):St:=
 ⟨qEo ns++qA8 g st.env ks,qEp k ns++qkU g st.hp g,nx,st.n⟩
def qHa(g ns:Sg)(nx:Nat):Bool:=
 decide (g.map (·.1)).Nodup&&decide ((g++ns).map (·.2)).Nodup&&(g++ns).all fun x=>decide (x.2<nx)
section
variable {P:Program}{w w' w0:World}{pu:Nat→Prop}{ow ow':Nat→Ow}{base:Nat}{g:Sg}
theorem qv3:∀{g:Sg} {a b:Nat},lkS g a=some b→(a,b)∈g
 |(x,y)::r,a,b,h=>by
  simp only[lkS]at h
  split at h
  ·rename_i he;injection h with h;subst h he;simp
  ·simp[qv3 h]
theorem qqQ:∀{g:Sg} {a b:Nat},lkI g b=some a→(a,b)∈g
 |(x,y)::r,a,b,h=>by
  simp only[lkI]at h
  split at h
  ·rename_i he;injection h with h;subst h he;simp
  ·simp[qqQ h]
theorem qmN:∀{g:Sg} {a b:Nat},(g.map (·.2)).Nodup→(a,b)∈g→lkI g b=some a
 |(x,y)::r,a,b,hn,h=>by
  simp only[List.map_cons,List.nodup_cons]at hn
  simp only[lkI]
  rcases List.mem_cons.1 h with h'|h'
  ·injection h' with h1 h2;subst h1 h2;simp
  ·rw[if_neg]
   ·exact qmN hn.2 h'
   ·rintro rfl
    exact hn.1 (List.mem_map.2 ⟨(a,b),h',rfl⟩)
theorem qv4:∀{g:Sg} {a b c:Nat},(g.map (·.1)).Nodup→(a,b)∈g→(a,c)∈g→b=c
 |(x,y)::r,a,b,c,hn,h1,h2=>by
  simp only[List.map_cons,List.nodup_cons]at hn
  rcases List.mem_cons.1 h1 with g1|g1<;>rcases List.mem_cons.1 h2 with g2|g2
  ·injection g1 with e1 e2;injection g2 with e3 e4;rw[e2,e4]
  ·injection g1 with e1 e2;subst e1;exact(hn.1 (List.mem_map.2 ⟨(a,c),g2,rfl⟩)).elim
  ·injection g2 with e1 e2;subst e1;exact(hn.1 (List.mem_map.2 ⟨(a,b),g1,rfl⟩)).elim
  ·exact qv4 hn.2 g1 g2
theorem qdQ:∀{ds:List D} {i:Nat} {d:D},(qhb g ds)[i]? =some d→∃e,ds[i]? =some e∧d=ren g e
 |[],i,d,h=>by simp[qhb]at h
 |e::ds,0,d,h=>by simp[qhb]at h;exact⟨e,rfl,h.symm⟩
 |e::ds,i+1,d,h=>by
  simp only[qhb,List.getElem?_cons_succ]at h ⊢
  exact qdQ h
theorem qbS:∀(ds:List D),(qhb g ds).length=ds.length
 |[]=>rfl
 |_::ds=>by simp[qhb,qbS ds]
theorem RepP.ren{v:Value}{d:D}(h:RepP w pu v d):RepP w pu v (ren g d):=by
 induction h with
 |undef v=>exact .undef v
 |skip=>exact .skip
 |int k n=>exact .int k n
 |bool b=>exact .bool b
 |str s=>exact .str s
 |float k n=>exact .float k n
 |agg vs cs hl _ ih=>
  refine .agg vs _ (by rw[qbS];exact hl) fun i v d h1 h2=>?_
  obtain⟨e,he,rfl⟩:=qdQ h2
  exact ih i v e h1 he
 |tup vs cs hl _ ih=>
  refine .tup vs _ (by rw[qbS];exact hl) fun i v d h1 h2=>?_
  obtain⟨e,he,rfl⟩:=qdQ h2
  exact ih i v e h1 he
 |sl a cap rows k f hc hk hm h _=>exact .sl a cap rows k f hc hk hm h
 |ptr b off cs f hb hm h _=>exact .ptr b off cs f hb hm h
 |nilptr=>exact .nilptr
 |clo fn xs ys cs ds hx _ hy _ ih ih'=>
  refine .clo fn xs ys _ _ (by rw[qbS];exact hx) (fun i v d h1 h2=>?_) (by rw[qbS];exact hy) fun i v d h1 h2=>?_
  ·obtain⟨e,he,rfl⟩:=qdQ h2
   exact ih i v e h1 he
  ·obtain⟨e,he,rfl⟩:=qdQ h2
   exact ih' i v e h1 he
 |nilfunc=>exact .nilfunc
 |iface t v d _ ih=>exact .iface t v _ ih
 |nilif=>exact .nilif
theorem Rep.ren(hg:∀b b',lkS g b=some b'→ow' b'=ow b){v:Value}{d:D}(h:Rep w pu ow v d):Rep w pu ow' v (ren g d):=by
 induction h with
 |pure v d h=>exact .pure _ _ h.ren
 |agg vs cs hl _ ih=>
  refine .agg vs _ (by rw[qbS];exact hl) fun i v d h1 h2=>?_
  obtain⟨e,he,rfl⟩:=qdQ h2
  exact ih i v e h1 he
 |tup vs cs hl _ ih=>
  refine .tup vs _ (by rw[qbS];exact hl) fun i v d h1 h2=>?_
  obtain⟨e,he,rfl⟩:=qdQ h2
  exact ih i v e h1 he
 |clo fn xs ys cs ds hx _ hy _ ih ih'=>
  refine .clo fn xs ys _ _ (by rw[qbS];exact hx) (fun i v d h1 h2=>?_) (by rw[qbS];exact hy) fun i v d h1 h2=>?_
  ·obtain⟨e,he,rfl⟩:=qdQ h2
   exact ih i v e h1 he
  ·obtain⟨e,he,rfl⟩:=qdQ h2
   exact ih' i v e h1 he
 |iface t v d _ ih=>exact .iface t v _ ih
 |nilsl=>exact .nilsl
 |osd a n c b off len hb=>
  simp only[Go.Pv.ren]
  split
  ·rename_i b' h';exact .osd a n c b' off len ((hg b b' h').trans hb)
  ·exact .pure _ _ (.undef _)
 |ose a b off hb=>
  simp only[Go.Pv.ren]
  split
  ·rename_i b' h';exact .ose a b' off ((hg b b' h').trans hb)
  ·exact .pure _ _ (.undef _)
 |osa a cap b off len g o k sz hb hl hm=>
  simp only[Go.Pv.ren]
  split
  ·rename_i b' h';exact .osa a cap b' off len g o k sz ((hg b b' h').trans hb) hl hm
  ·exact .pure _ _ (.undef _)
 |opd a b row off hb=>
  simp only[Go.Pv.ren]
  split
  ·rename_i b' h';exact .opd a b' row off ((hg b b' h').trans hb)
  ·exact .pure _ _ (.undef _)
 |opa b row off g o k sz hb=>
  simp only[Go.Pv.ren]
  split
  ·rename_i b' h';exact .opa b' row off g o k sz ((hg b b' h').trans hb)
  ·exact .pure _ _ (.undef _)
 |omd r b hb=>
  simp only[Go.Pv.ren]
  split
  ·rename_i b' h';exact .omd r b' ((hg b b' h').trans hb)
  ·exact .pure _ _ (.undef _)
 |oma b g hb=>
  simp only[Go.Pv.ren]
  split
  ·rename_i b' h';exact .oma b' g ((hg b b' h').trans hb)
  ·exact .pure _ _ (.undef _)
theorem quc{rows:List (List D)}{i j:Nat}{d:D}(h:qau (rows.map (qhb g)) i j=some d):∃e,qau rows i j=some e∧d=Go.Pv.ren g e:=by
 unfold qau at h ⊢
 rw[List.getElem?_map]at h
 cases hr:rows[i]? with
 |none=>rw[hr]at h;simp at h
 |some r=>
  rw[hr]at h
  simp only[Option.map_some,Option.bind_some]at h
  obtain⟨e,he,rfl⟩:=qdQ h
  exact⟨e,by simpa using he,rfl⟩
theorem qb5.ren{o:Ow}{blk:Blk}(hg:∀b b',lkS g b=some b'→ow' b'=ow b)(h:qb5 w pu ow o blk):qb5 w pu ow' o (qFY g blk):=by
 obtain⟨hf,h⟩:=h
 unfold qFY
 split
 ·rename_i hfl
  refine⟨hf,?_⟩
  cases o with
  |dead=>exact h
  |pending=>exact h
  |empty=>exact h
  |lies y a k sz=>
   obtain⟨h1,h2,h3,h4,c,t,h5,h6,h7⟩:=h
   refine⟨h1,h2,h3,h4,c,t,h5,h6,fun i j d hd=>?_⟩
   obtain⟨v,hv,hr⟩:=h7 i j d hd
   exact⟨v,hv,.pure _ _ (qhW hr (qgd (hf hfl) hd))⟩
  |mp y=>exact h
 ·refine⟨fun h=>Bool.noConfusion h,?_⟩
  cases o with
  |dead=>exact h
  |pending=>exact h
  |empty=>simpa using h
  |lies y a k sz=>
   obtain⟨h1,h2,h3,h4,c,t,h5,h6,h7⟩:=h
   refine⟨h1,h2,fun r hr=>?_,by simpa using h4,c,t,h5,h6,fun i j d hd=>?_⟩
   ·obtain⟨r',hr',rfl⟩:=List.mem_map.1 hr
    rw[qbS];exact h3 r' hr'
   ·obtain⟨e,he,rfl⟩:=quc hd
    obtain⟨v,hv,hr⟩:=h7 i j e he
    exact⟨v,hv,hr.ren hg⟩
  |mp y=>rename_i hfl;exact(hfl h.1.1).elim
theorem qi3{hp:Hp}:∀{r:Sg} {b':Nat} {blk':Blk},lkH (qkU g hp r) b'=some blk'→∃b blk,(b,b')∈r∧lkH hp b=some blk∧blk'=qFY g blk
 |(x,y)::r,b',blk',h=>by
  simp only[qkU]at h
  split at h
  ·rename_i blk hb
   simp only[lkH]at h
   split at h
   ·rename_i he
    injection h with h
    exact⟨x,blk,by simp[he],hb,h.symm⟩
   ·obtain⟨b,blk2,h1,h2,h3⟩:=qi3 h
    exact⟨b,blk2,by simp[h1],h2,h3⟩
  ·obtain⟨b,blk2,h1,h2,h3⟩:=qi3 h
   exact⟨b,blk2,by simp[h1],h2,h3⟩
theorem qhp{hp:Hp}{a b':Nat}(h:lkH hp a≠none):∀{r:Sg},(a,b')∈r→lkH (qkU g hp r) b'≠none
 |(x,y)::r,hm=>by
  simp only[qkU]
  rcases List.mem_cons.1 hm with he|hm
  ·injection he with h1 h2
   subst h1 h2
   split
   ·simp[lkH]
   ·rename_i hn;exact(h hn).elim
  ·split
   ·simp only[lkH]
    split
    ·simp
    ·exact qhp h hm
   ·exact qhp h hm
theorem qi4(e1 e2:Env)(s:Nat):lkE (e1++e2) s=if s∈e1.map (·.1)then lkE e1 s else lkE e2 s:=by
 induction e1 with
 |nil=>simp
 |cons x e1 ih=>
  obtain⟨k,d⟩:=x
  simp only[List.cons_append,lkE,List.map_cons,List.mem_cons,ih]
  by_cases h:s=k
  ·simp[h]
  ·simp only[h,false_or,if_false]
theorem qsb:∀{ns:Sg} {s:Nat},s∈(qEo ns).map (·.1)→∃b,(s,b)∈ns∧lkE (qEo ns) s=.os b 0 0
 |(k,b)::ns,s,h=>by
  simp only[qEo,List.map_cons,List.mem_cons,lkE]at h ⊢
  by_cases he:s=k
  ·exact⟨b,.inl (by rw[he]),by rw[if_pos he]⟩
  ·rw[if_neg he]
   obtain⟨c,h1,h2⟩:=qsb (ns:=ns) (s:=s) (by simpa[qEo,he]using h)
   exact⟨c,.inr h1,h2⟩
theorem qsc{k:Nat}:∀{ns:Sg} {b:Nat} {blk:Blk},lkH (qEp k ns) b=some blk→blk=⟨k,true,[]⟩∧∃s,(s,b)∈ns
 |(s,c)::ns,b,blk,h=>by
  simp only[qEp,List.map_cons,lkH]at h
  split at h
  ·rename_i he;injection h with h;exact⟨h.symm,s,by simp[he]⟩
  ·obtain⟨h1,s',h2⟩:=qsc (ns:=ns) h
   exact⟨h1,s',by simp[h2]⟩
theorem qh4{k:Nat}:∀{ns:Sg} {b s:Nat},(s,b)∈ns→lkH (qEp k ns) b≠none
 |(s',c)::ns,b,s,h=>by
  simp only[qEp,List.map_cons,lkH]
  split
  ·simp
  ·rename_i hne
   rcases List.mem_cons.1 h with h|h
   ·injection h with h1 h2;exact(hne h2).elim
   ·exact qh4 h
theorem qnM{ns:Sg}{k nx:Nat}{ks:List Nat}{st:St}(ho:qHa g ns nx=true)(hn:∀x∈ns,lkE st.env x.1=.nilsl):qcr st (qub g ns k ks nx st):=by
 unfold qHa at ho
 simp only[Bool.and_eq_true,decide_eq_true_eq,List.all_eq_true]at ho
 obtain⟨⟨hd1,hd2⟩,hlt⟩:=ho
 have hd2':(g.map (·.2)).Nodup:=by
  rw[List.map_append]at hd2
  exact(List.nodup_append.1 hd2).1
 have hdis:∀a s b,(a,b)∈g→(s,b)∈ns→False:=fun a s b h1 h2=>by
  rw[List.map_append]at hd2
  exact(List.nodup_append.1 hd2).2.2 b (List.mem_map.2 ⟨_,h1,rfl⟩) b (List.mem_map.2 ⟨_,h2,rfl⟩) rfl
 intro w0 S a w hF ⟨pu,ow,m1,m2,m3,m4,m5,m6,m7⟩
 let ow':Nat→Ow:=fun b'=>match lkI g b' with
  |some b=>ow b
  |none=>if b'∈ns.map (·.2)then .empty else .pending
 have h1:∀b b',(b,b')∈g→ow' b'=ow b:=fun b b' h=>by simp only[ow',qmN hd2' h]
 have hg:∀b b',lkS g b=some b'→ow' b'=ow b:=fun b b' h=>h1 b b' (qv3 h)
 have h2:∀s b',(s,b')∈ns→ow' b'=.empty:=fun s b' h=>by
  have:lkI g b'=none:=by
   cases hl:lkI g b' with
   |none=>rfl
   |some b=>exact(hdis b s b' (qqQ hl) h).elim
  simp only[ow',this]
  rw[if_pos (List.mem_map.2 ⟨_,h,rfl⟩)]
 have h3:∀b',(∀b,(b,b')∉g)→(∀s,(s,b')∉ns)→ow' b'=.pending:=fun b' hg hs=>by
  have:lkI g b'=none:=by
   cases hl:lkI g b' with
   |none=>rfl
   |some b=>exact(hg b (qqQ hl)).elim
  simp only[ow',this]
  rw[if_neg]
  rintro hm
  obtain⟨⟨s,b⟩,hm',rfl⟩:=List.mem_map.1 hm
  exact hs s hm'
 have hcase:∀b' y,(ow' b').on y→∃b,(b,b')∈g∧(ow b).on y:=fun b' y h=>by
  by_cases hgx:∃b,(b,b')∈g
  ·obtain⟨b,hb⟩:=hgx
   exact⟨b,hb,by rw[←h1 b b' hb];exact h⟩
  ·by_cases hsx:∃s,(s,b')∈ns
   ·obtain⟨s,hs⟩:=hsx
    rw[h2 s b' hs]at h;exact h.elim
   ·rw[h3 b' (fun b hb=>hgx ⟨b,hb⟩) (fun s hs=>hsx ⟨s,hs⟩)]at h;exact h.elim
 refine⟨pu,ow',⟨fun b' blk' hb=>?_,fun b' hb=>?_,fun b1 b2 y e1 e2=>?_,fun b' y e=>?_,m1.zone⟩,fun s=>?_,m3,m4,fun b' hb=>?_,m6,m7.1,m7.2.1,fun b=>.inl (hF b)⟩
 ·simp only[qub,qa6,Option.or_eq_some_iff]at hb
  rcases hb with hb|⟨_,hb⟩
  ·obtain⟨rfl,s,hs⟩:=qsc hb
   rw[h2 s b' hs]
   exact⟨fun _=>rfl,rfl⟩
  ·obtain⟨b,blk,hm,hb2,rfl⟩:=qi3 hb
   rw[h1 b b' hm]
   exact(m1.blk b blk hb2).ren hg
 ·simp only[qub,qa6,Option.or_eq_none_iff]at hb
  by_cases hgx:∃b,(b,b')∈g
  ·obtain⟨b,hm⟩:=hgx
   rw[h1 b b' hm]
   refine m1.none b ?_
   cases hl:lkH st.hp b with
   |none=>rfl
   |some blk=>exact(qhp (by rw[hl];simp) hm hb.2).elim
  ·by_cases hsx:∃s,(s,b')∈ns
   ·obtain⟨s,hs⟩:=hsx
    exact(qh4 hs hb.1).elim
   ·exact .inr (h3 b' (fun b hb=>hgx ⟨b,hb⟩) (fun s hs=>hsx ⟨s,hs⟩))
 ·obtain⟨c1,hc1,f1⟩:=hcase b1 _ e1
  obtain⟨c2,hc2,f2⟩:=hcase b2 _ e2
  have:=m1.injO c1 c2 _ f1 f2
  subst this
  exact qv4 hd1 hc1 hc2
 ·obtain⟨c,hc,f⟩:=hcase b' _ e
  exact m1.ownO c _ f
 ·simp only[qub]
  rw[qi4]
  split
  ·rename_i hs
   obtain⟨b,hb,he⟩:=qsb hs
   rw[he]
   have:=m2 s
   rw[hn (s,b) hb]at this
   have hv:a.tmps.getD s undef=.slice none 0 0:=by
    generalize a.tmps.getD s undef=v at this
    cases this with
    |pure _ _ h=>cases h
    |nilsl=>rfl
   rw[hv]
   exact .ose none b 0 (h2 s b hb)
  ·unfold qA8
   rw[qgj (fun s=>Go.Pv.ren g (lkE st.env s))]
   split
   ·exact(m2 s).ren hg
   ·exact .pure _ _ (.undef _)
 ·simp only[qub]at hb
  refine h3 b' (fun b hm=>?_) fun s hm=>?_
  ·have:=hlt (b,b') (by simp[hm])
   simp at this
   omega
  ·have:=hlt (s,b') (by simp[hm])
   simp at this
   omega
theorem qaa{ns:Sg}{k nx:Nat}{ks:List Nat}{st st':St}(g:Sg)(ho:qHa g ns nx=true)(hn:∀x∈ns,lkE st.env x.1=.nilsl)(he:qub g ns k ks nx st=st'):qcr st st':=he▸qnM ho hn
theorem qcr.refl(st:St):qcr st st:=fun _ _ _ _ _ h=>h
theorem qcr.trans{s s' s'':St}(h:qcr s s')(h':qcr s' s''):qcr s s'':=fun _ _ _ _ hF hi=>h' _ _ _ _ hF (h _ _ _ _ hF hi)
end
inductive Src where
 |pure|nil|blk (b:Nat)
def qbC:List Src→List Nat
 |[]=>[]
 |.blk b::l=>b::qbC l
 |_::l=>qbC l
def qbd(frs:List Nat)(hp:Nat→Option Blk):Nat→Option Blk:=fun b=>if b∈frs then none else hp b
def qHb(hp hpX:Nat→Option Blk):Src→D→D→Prop
 |.pure,d,r=>pur hpX 64 d=some r
 |.nil,d,r=>d=.nilsl∧∃k,r=.fr k []
 |.blk b,d,r=>∃blk rows,d=.os b 0 rows.length∧hp b=some blk∧r=.fr blk.k rows∧if blk.flat=true then rows=blk.rows else qqJ hpX 64 blk.rows=some rows
def qoH(hp hpX:Nat→Option Blk):List Src→List D→List D→Prop
 |[],[],[]=>True
 |s::ss,d::ds,r::rs=>qHb hp hpX s d r∧qoH hp hpX ss ds rs
 |_,_,_=>False
def qb7(P:Program)(st:St):ResultVar→Option D
 |.tmp t=>some (lkE st.env t)
 |.cell a t=>qhS P (lkH st.hp) t (lkE st.env a)
def qj2:List D→D
 |[d]=>d
 |ds=>.tup ds
def qjE:D→Bool
 |.tup _=>false
 |_=>true
def qKD(P:Program)(rv:List ResultVar)(st:St)(r:D):Prop:=
 ∃(ss:List Src) (ds rs:List D),rv.map (qb7 P st)=ds.map some∧(qbC ss).Nodup∧qoH (lkH st.hp) (qbd (qbC ss) (lkH st.hp)) ss ds rs∧r=qj2 rs∧(rs.length=1→rs.all qjE=true)
def qcj:D→Bool
 |.agg _=>false
 |_=>true
def qKE(P:Program)(rv:List ResultVar)(st:St)(r:D):Prop:=
 ∃(ss:List Src) (ds rs:List D),rv.map (qb7 P st)=ds.map some∧(qbC ss).Nodup∧qoH (lkH st.hp) (qbd (qbC ss) (lkH st.hp)) ss (ds.flatMap qai) (rs.flatMap qai)∧r=qj2 rs∧(rs.length=1→rs.all qjE=true)∧
  ds.map (fun d=>(qcj d,(qai d).length))=rs.map (fun d=>(qcj d,(qai d).length))∧(rs.flatMap qai).all qcj=true
def Fin(P:Program)(rv:List ResultVar)(st:St)(r:D):Prop:=qKD P rv st r∨qKE P rv st r
def qg3(P:Program)(rv:List ResultVar)(out:Outc):X→St→Prop
 |.normal,st=>∃r,out=.ret r∧Fin P rv st r
 |.ret,st=>∃r,out=.ret r∧Fin P rv st r
 |.pan d,_=>out=.pan d
 |_,_=>False
section
variable {P:Program}{w w' w0:World}{pu Q:Nat→Prop}{S:Frm}{ow owX:Nat→Ow}{base:Nat}{hp hpX:Nat→Option Blk}
theorem qv5{n:Nat}{d r:D}(h:pur hp n d=some r):∀k rows,r≠ .fr k rows:=by
 rintro k rows rfl
 cases n with
 |zero=>simp[pur]at h
 |succ n=>
  cases d<;>simp only[pur]at h
  case os=>obtain⟨blk,_,h⟩:=Option.bind_eq_some_iff.1 h;split at h;(obtain⟨x,_,h⟩:=Option.map_eq_some_iff.1 h;cases h);cases h
  case op=>obtain⟨blk,_,h⟩:=Option.bind_eq_some_iff.1 h;split at h;(obtain⟨x,_,h⟩:=Option.map_eq_some_iff.1 h;cases h);cases h
  case agg=>obtain⟨x,_,h⟩:=Option.map_eq_some_iff.1 h;cases h
  case tup=>obtain⟨x,_,h⟩:=Option.map_eq_some_iff.1 h;cases h
  case clo=>obtain⟨x,_,h⟩:=Option.bind_eq_some_iff.1 h;obtain⟨y,_,h⟩:=Option.map_eq_some_iff.1 h;cases h
  case iface=>obtain⟨x,_,h⟩:=Option.map_eq_some_iff.1 h;cases h
  all_goals cases h
theorem qv6{n m:Nat}{d r:D}(h:pur hp n d=some r):adC m r=(r,[]):=by
 have:=qv5 h
 cases r<;>first|rfl|exact(this _ _ rfl).elim
theorem qv7{n:Nat}:∀{rs:List D} {m:Nat},(∀r∈rs,∃hp k d,pur hp k d=some r)→adL m rs=(rs,[])
 |[],_,_=>rfl
 |r::rs,m,h=>by
  obtain⟨hp,k,d,hr⟩:=h r (by simp)
  simp only[adL,qv6 hr,qv7 (n:=n) (rs:=rs) (m:=m+1) fun r hr=>h r (by simp[hr])]
  rfl
theorem qCe{n m:Nat}{d r:D}(h:pur hp n d=some r):adE m r=(r,[]):=by
 cases r with
 |agg cs=>
  have hcs:∀c∈cs,∃hp k d,pur hp k d=some c:=by
   cases n with
   |zero=>simp[pur]at h
   |succ n=>
    cases d<;>simp only[pur]at h
    case os=>obtain⟨blk,_,h⟩:=Option.bind_eq_some_iff.1 h;split at h;(obtain⟨x,_,h⟩:=Option.map_eq_some_iff.1 h;cases h);cases h
    case op=>obtain⟨blk,_,h⟩:=Option.bind_eq_some_iff.1 h;split at h;(obtain⟨x,_,h⟩:=Option.map_eq_some_iff.1 h;cases h);cases h
    case tup=>obtain⟨x,_,h⟩:=Option.map_eq_some_iff.1 h;cases h
    case clo=>obtain⟨x,_,h⟩:=Option.bind_eq_some_iff.1 h;obtain⟨y,_,h⟩:=Option.map_eq_some_iff.1 h;cases h
    case iface=>obtain⟨x,_,h⟩:=Option.map_eq_some_iff.1 h;cases h
    case agg ds=>
     obtain⟨x,hx,h⟩:=Option.map_eq_some_iff.1 h
     injection h with h;subst h
     intro c hc
     obtain⟨i,hi⟩:=List.mem_iff_getElem?.1 hc
     obtain⟨d,m,_,_,hp'⟩:=(qfG n ds x hx).2 i c hi
     exact⟨hp,m,d,hp'⟩
    all_goals cases h
  simp only[adE,qv7 (n:=0) hcs]
 |_=>exact qv6 (m:=m) h
def owF(ow:Nat→Ow):Nat→List Src→List D→Nat→Ow
 |n,.pure::ss,r::rs,b'=>owF ow (n+qdv r) ss rs b'
 |n,.nil::ss,_::rs,b'=>if b'=n then .empty else owF ow (n+1) ss rs b'
 |n,.blk b::ss,_::rs,b'=>if b'=n then ow b else owF ow (n+1) ss rs b'
 |_,_,_,_=>.pending
theorem qmO{g b':Nat}:∀{ss:List Src} {rs:List D} {n:Nat},(owF ow n ss rs b').on g→n≤b'∧∃b∈qbC ss,(ow b).on g
 |[],rs,n,h=>by simp[owF]at h;exact h.elim
 |s::ss,[],n,h=>by cases s<;>(simp[owF]at h;exact h.elim)
 |.pure::ss,r::rs,n,h=>by
  simp only[owF]at h
  obtain⟨h1,h2⟩:=qmO h
  exact⟨by omega,h2⟩
 |.nil::ss,r::rs,n,h=>by
  simp only[owF]at h
  split at h
  ·exact h.elim
  ·obtain⟨h1,h2⟩:=qmO h
   exact⟨by omega,h2⟩
 |.blk b::ss,r::rs,n,h=>by
  simp only[owF]at h
  split at h
  ·rename_i he;exact⟨by omega,b,by simp[qbC],h⟩
  ·obtain⟨h1,c,h2,h3⟩:=qmO h
   exact⟨by omega,c,by simp[qbC,h2],h3⟩
theorem qnN(hinj:∀b b' g,(ow b).on g→(ow b').on g→b=b'){g b1 b2:Nat}:∀{ss:List Src} {rs:List D} {n:Nat},(qbC ss).Nodup→
  (owF ow n ss rs b1).on g→(owF ow n ss rs b2).on g→b1=b2
 |[],rs,n,_,h,_=>by simp[owF]at h;exact h.elim
 |s::ss,[],n,_,h,_=>by cases s<;>(simp[owF]at h;exact h.elim)
 |.pure::ss,r::rs,n,hd,h,h'=>by
  simp only[owF]at h h'
  exact qnN hinj (ss:=ss) hd h h'
 |.nil::ss,r::rs,n,hd,h,h'=>by
  simp only[owF]at h h'
  split at h
  ·exact h.elim
  ·split at h'
   ·exact h'.elim
   ·exact qnN hinj (ss:=ss) hd h h'
 |.blk b::ss,r::rs,n,hd,h,h'=>by
  simp only[qbC,List.nodup_cons]at hd
  simp only[owF]at h h'
  split at h<;>split at h'
  ·omega
  ·obtain⟨_,c,hc,e⟩:=qmO h'
   have:=hinj b c _ h e
   subst this
   exact(hd.1 hc).elim
  ·obtain⟨_,c,hc,e⟩:=qmO h
   have:=hinj b c _ h' e
   subst this
   exact(hd.1 hc).elim
  ·exact qnN hinj (ss:=ss) hd.2 h h'
theorem qo8(hm:Mem base w pu ow hp)(hmX:Mem base w pu owX hpX)(hX:∀b,owX b=ow b∨owX b=.dead)(hz:∀g,pu g→Q g)(hzX:∀b g o k sz,owX b=.lies g o k sz→Q g){R:Nat→Ow}:∀(ss:List Src) (ds rs:List D) (n:Nat),qoH hp hpX ss ds rs→
  (∀b',n≤b'→R b'=owF ow n ss rs b')→
  (∀b' blk',lkH (adT n rs).2 b'=some blk'→qb5 w Q R (R b') blk')∧(∀b',n≤b'→lkH (adT n rs).2 b'=none→R b'=.pending)∧
  (adT n rs).1.length=ds.length∧∀(i:Nat) (v:Value) (d r:D),ds[i]? =some d→(adT n rs).1[i]? =some r→Rep w pu ow v d→Rep w Q R v r
 |[],[],[],n,_,hR=>⟨fun b' blk' h=>by simp[adT,lkH]at h,fun b' hb _=>by rw[hR b' hb];rfl,rfl,fun i v d r h=>by simp at h⟩
 |s::ss,d::ds,r::rs,n,hf,hR=>by
  obtain⟨hc,hf⟩:=hf
  have hXe:Ext w pu ow w pu owX:=⟨fun g hg=>⟨hg,rfl⟩,fun b=>.inr (hX b)⟩
  cases s with
  |pure=>
   simp only[qHb]at hc
   have had:=qCe (m:=n) hc
   obtain⟨h1,h2,h3,h4⟩:=qo8 (R:=R) hm hmX hX hz hzX ss ds rs (n+qdv r) hf (fun b' hb=>by rw[hR b' (by omega)];rfl)
   have hlow:∀b' blk',lkH (adT (n+qdv r) rs).2 b'=some blk'→n+qdv r≤b':=fun b' blk' h=>(qkN rs _ b' blk' h).1
   refine⟨fun b' blk' h=>?_,fun b' hb h=>?_,?_,fun i v d' r' e1 e2 hv=>?_⟩
   ·simp only[adT,had,List.nil_append]at h
    exact h1 b' blk' h
   ·simp only[adT,had,List.nil_append]at h
    rcases Nat.lt_or_ge b' (n+qdv r)with hlt|hge
    ·rw[hR b' hb]
     simp only[owF]
     have:∀(ss:List Src) (rs:List D) (k:Nat),b'<k→owF ow k ss rs b'=.pending:=by
      intro ss
      induction ss with
      |nil=>intro rs k _;rfl
      |cons s ss ih=>
       intro rs k hk
       cases rs with
       |nil=>cases s<;>rfl
       |cons r rs=>
        cases s<;>simp only[owF]
        ·exact ih rs _ (by omega)
        ·rw[if_neg (by omega)];exact ih rs _ (by omega)
        ·rw[if_neg (by omega)];exact ih rs _ (by omega)
     exact this ss rs _ hlt
    ·exact h2 b' hge h
   ·simp only[adT,had,List.length_cons,h3]
   ·simp only[adT,had]at e2
    cases i with
    |zero=>
     simp at e1 e2
     subst e1 e2
     exact .pure _ _ (qmB hmX hz 64 v d r (hv.mono hXe) (.inr hzX) hc)
    |succ i=>exact h4 i v d' r' (by simpa using e1) (by simpa using e2) hv
  |nil=>
   obtain⟨rfl,k,rfl⟩:=hc
   have hn:R n=.empty:=by rw[hR n (Nat.le_refl _)];simp[owF]
   obtain⟨h1,h2,h3,h4⟩:=qo8 (R:=R) hm hmX hX hz hzX ss ds rs (n+1) hf (fun b' hb=>by rw[hR b' (by omega)];simp only[owF];rw[if_neg (by omega)])
   refine⟨fun b' blk' h=>?_,fun b' hb h=>?_,?_,fun i v d' r' e1 e2 hv=>?_⟩
   ·simp only[adT,adE,adC,qdv,qa6,lkH]at h
    split at h
    ·rename_i he
     subst he
     simp at h
     subst h
     rw[hn]
     exact⟨fun _=>rfl,rfl⟩
    ·exact h1 b' blk' (by simpa using h)
   ·simp only[adT,adE,adC,qdv,qa6,lkH]at h
    split at h
    ·simp at h
    ·rename_i he
     exact h2 b' (by omega) (by simpa using h)
   ·simp only[adT,List.length_cons,qdv,h3]
   ·simp only[adT,adE,adC,qdv]at e2
    cases i with
    |zero=>
     simp at e1 e2
     subst e1 e2
     have:v=.slice none 0 0:=by
      cases hv with
      |pure _ _ h=>cases h
      |nilsl=>rfl
     subst this
     exact .ose none n 0 hn
    |succ i=>exact h4 i v d' r' (by simpa using e1) (by simpa using e2) hv
  |blk b=>
   obtain⟨blk,rows,rfl,hb,rfl,hrows⟩:=hc
   have hn:R n=ow b:=by rw[hR n (Nat.le_refl _)];simp[owF]
   obtain⟨h1,h2,h3,h4⟩:=qo8 (R:=R) hm hmX hX hz hzX ss ds rs (n+1) hf (fun b' hb=>by rw[hR b' (by omega)];simp only[owF];rw[if_neg (by omega)])
   refine⟨fun b' blk' h=>?_,fun b' hb h=>?_,?_,fun i v d' r' e1 e2 hv=>?_⟩
   ·simp only[adT,adE,adC,qdv,qa6,lkH]at h
    split at h
    ·rename_i he
     subst he
     simp at h
     subst h
     rw[hn]
     have hblk:=hm.blk b blk hb
     obtain⟨hfl,hblk⟩:=hblk
     have hfacts:rows.length=blk.rows.length∧(∀k,(∀r∈blk.rows,r.length=k)→∀r∈rows,r.length=k)∧∀(i j:Nat) (d':D),qau rows i j=some d'→
       ∃d,qau blk.rows i j=some d∧∀v,Rep w pu ow v d→RepP w Q v d':=by
      split at hrows
      ·rename_i hfb
       subst hrows
       exact⟨rfl,fun k h=>h,fun i j d' hd=>⟨d',hd,fun v hv=>(qhW hv (qgd (hfl hfb) hd)).zone hz⟩⟩
      ·obtain⟨p1,p2,p3⟩:=qoR hrows
       refine⟨p1,p2,fun i j d' hd=>?_⟩
       obtain⟨d,m,_,hd2,hpm⟩:=p3 i j d' hd
       exact⟨d,hd2,fun v hv=>qmB hmX hz m v d d' (hv.mono hXe) (.inr hzX) hpm⟩
     obtain⟨f1,f2,f3⟩:=hfacts
     refine⟨fun h=>h,?_⟩
     generalize ow b=oo at hblk
     cases oo with
     |dead=>exact hblk
     |pending=>trivial
     |empty=>
      simp only at hblk ⊢
      rw[hblk]at f1
      exact List.length_eq_zero_iff.1 f1
     |mp y=>
      have hft:=hblk.1.1
      rw[if_pos hft]at hrows
      subst hrows
      exact⟨⟨hfl hft,hblk.1.2⟩,hblk.2⟩
     |lies g o k sz=>
      obtain⟨q1,q2,q3,q4,c,t,q5,q6,q7⟩:=hblk
      refine⟨q1,q2,f2 k q3,by rw[f1];exact q4,c,t,q5,q6,fun i j d' hd=>?_⟩
      obtain⟨d,hd2,hv⟩:=f3 i j d' hd
      obtain⟨v,hv1,hv2⟩:=q7 i j d hd2
      exact⟨v,hv1,.pure _ _ (hv v hv2)⟩
    ·exact h1 b' blk' (by simpa using h)
   ·simp only[adT,adE,adC,qdv,qa6,lkH]at h
    split at h
    ·simp at h
    ·rename_i he
     exact h2 b' (by omega) (by simpa using h)
   ·simp only[adT,List.length_cons,qdv,h3]
   ·simp only[adT,adE,adC,qdv]at e2
    cases i with
    |zero=>
     simp at e1 e2
     subst e1 e2
     generalize rows.length=ll at hv ⊢
     cases hv with
     |pure _ _ h=>cases h
     |osd a n' c _ _ _ hb'=>exact .osd a n' c n 0 _ (hn.trans hb')
     |ose a _ _ hb'=>exact .ose a n 0 (hn.trans hb')
     |osa a cap _ _ _ g o k sz hb' hl hm'=>exact .osa a cap n 0 _ g o k sz (hn.trans hb') hl hm'
    |succ i=>exact h4 i v d' r' (by simpa using e1) (by simpa using e2) hv
 |[],_::_,_,n,hf,_=>by simp[qoH]at hf
 |[],[],_::_,n,hf,_=>by simp[qoH]at hf
 |_::_,[],_,n,hf,_=>by simp[qoH]at hf
 |_::_,_::_,[],n,hf,_=>by simp[qoH]at hf
theorem qh5{n:Nat}{d:D}(h:qcj d=true):adE n d=adC n d∧qdv d=1:=by
 cases d<;>first|(cases h;done)|exact⟨rfl,rfl⟩
theorem qh6:∀{cs:List D} {n:Nat},cs.all qcj=true→adT n cs=adL n cs
 |[],_,_=>rfl
 |c::cs,n,h=>by
  simp only[List.all_cons,Bool.and_eq_true]at h
  obtain⟨h1,h2⟩:=qh5 (n:=n) h.1
  simp only[adT,adL,h1,h2,qh6 h.2]
theorem qi5:∀{xs ys:List D} {n:Nat},xs.all qcj=true→adT n (xs++ys)=((adT n xs).1++(adT (n+xs.length) ys).1,(adT n xs).2++(adT (n+xs.length) ys).2)
 |[],ys,n,_=>by simp[adT]
 |x::xs,ys,n,h=>by
  simp only[List.all_cons,Bool.and_eq_true]at h
  obtain⟨h1,h2⟩:=qh5 (n:=n) h.1
  simp only[List.cons_append,adT,h1,h2,qi5 (xs:=xs) (n:=n+1) h.2,List.length_cons,List.append_assoc,show n+1+xs.length=n+(xs.length+1)by omega]
theorem qc6{d:D}(h:qcj d=true):qai d=[d]:=by
 cases d<;>first|(cases h;done)|rfl
theorem qkb{d:D}(h:qcj d=false):∃cs,d=.agg cs:=by
 cases d<;>first|(cases h;done)|exact⟨_,rfl⟩
theorem qhq:∀{rs:List D} {n:Nat},(rs.flatMap qai).all qcj=true→(adT n rs).2=(adT n (rs.flatMap qai)).2
 |[],_,_=>rfl
 |r::rs,n,h=>by
  rw[List.flatMap_cons,List.all_append,Bool.and_eq_true]at h
  rw[List.flatMap_cons,qi5 h.1]
  simp only[adT]
  cases hc:qcj r with
  |true=>
   obtain⟨h1,h2⟩:=qh5 (n:=n) hc
   rw[qhq h.2,qc6 hc,h2]
   simp[adT]
  |false=>
   obtain⟨cs,rfl⟩:=qkb hc
   rw[qhq h.2]
   simp only[adE,qdv,qai]at h ⊢
   rw[qh6 h.1]
theorem qsd{R1 R2:Value→D→Prop}(hagg1:∀v cs,R1 v (.agg cs)→∃vs:Array Value,v=.agg vs∧vs.size=cs.length∧∀(i:Nat) (v:Value) (d:D),vs[i]? =some v→cs[i]? =some d→R1 v d)
  (hagg2:∀(vs:Array Value) cs,vs.size=cs.length→(∀(i:Nat) (v:Value) (d:D),vs[i]? =some v→cs[i]? =some d→R2 v d)→R2 (.agg vs) (.agg cs)):
  ∀{ds rs:List D} {n:Nat},ds.map (fun d=>(qcj d,(qai d).length))=rs.map (fun d=>(qcj d,(qai d).length))→(rs.flatMap qai).all qcj=true→
   (∀(i:Nat) (v:Value) (d r:D),(ds.flatMap qai)[i]? =some d→(adT n (rs.flatMap qai)).1[i]? =some r→R1 v d→R2 v r)→
   ∀(i:Nat) (v:Value) (d r:D),ds[i]? =some d→(adT n rs).1[i]? =some r→R1 v d→R2 v r
 |[],[],_,_,_,_,i,v,d,r,h,_,_=>by simp at h
 |[],_::_,_,h,_,_,_,_,_,_,_,_,_=>by simp at h
 |_::_,[],_,h,_,_,_,_,_,_,_,_,_=>by simp at h
 |d0::ds,r0::rs,n,hs,hall,h,i,v,d,r,h1,h2,hv=>by
  simp only[List.map_cons,List.cons.injEq,Prod.mk.injEq]at hs
  obtain⟨⟨hcell,hlen⟩,hs⟩:=hs
  rw[List.flatMap_cons,List.all_append,Bool.and_eq_true]at hall
  rw[List.flatMap_cons,List.flatMap_cons,qi5 hall.1]at h
  have hl:∀{cs:List D} {m:Nat},cs.all qcj=true→(adT m cs).1.length=cs.length:=by
   intro cs
   induction cs with
   |nil=>intro m _;rfl
   |cons c cs ih=>intro m hc;simp only[List.all_cons,Bool.and_eq_true]at hc;simp only[adT,List.length_cons,ih hc.2]
  cases i with
  |zero=>
   simp only[adT,List.getElem?_cons_zero,Option.some.injEq]at h1 h2
   subst h1 h2
   cases hc:qcj r0 with
   |true=>
    rw[qc6 hc,qc6 (hcell.trans hc)]at h
    rw[(qh5 hc).1]
    refine h 0 v d0 _ (by simp) ?_ hv
    simp[adT,(qh5 (n:=n) hc).1]
   |false=>
    obtain⟨cs,rfl⟩:=qkb hc
    obtain⟨ds',rfl⟩:=qkb (hcell.trans hc)
    obtain⟨vs,rfl,hsz,hvs⟩:=hagg1 _ _ hv
    simp only[adE]
    simp only[qai]at h hall hlen
    rw[qh6 hall.1]at h
    have hl2:(adL n cs).1.length=cs.length:=by rw[←qh6 hall.1];exact hl hall.1
    refine hagg2 vs _ (by rw[hl2,hsz,hlen]) fun i v' d' e1 e2=>?_
    have hi:i<ds'.length:=by
     have:=(Array.getElem?_eq_some_iff.1 e1).1
     omega
    refine h i v' ds'[i] d' (by rw[List.getElem?_append_left hi,List.getElem?_eq_getElem hi]) ?_ (hvs i v' _ e1 (List.getElem?_eq_getElem hi))
    rw[List.getElem?_append_left (by have:=(List.getElem?_eq_some_iff.1 e2).1;exact this)]
    exact e2
  |succ i=>
   refine qsd hagg1 hagg2 (n:=n+qdv r0) hs hall.2 (fun i' v' d' r' e1 e2=>?_) i v d r (by simpa using h1) (by simpa[adT]using h2) hv
   have hw:qdv r0=(qai r0).length:=by cases r0<;>rfl
   refine h ((qai d0).length+i') v' d' r' ?_ ?_
   ·rw[List.getElem?_append_right (by omega)];simpa using e1
   ·rw[List.getElem?_append_right (by rw[hl hall.1,hlen];omega),hl hall.1,hlen]
    rw[←hw,show qdv r0+i'-qdv r0=i' by omega]
    exact e2
end
section
variable {P:Program}{w w' w0:World}{pu Q:Nat→Prop}{S:Frm}{ow owX:Nat→Ow}{base:Nat}{hp:Nat→Option Blk}
def qv8(tmps:Array Value):ResultVar→Sem Value
 |.tmp t=>pure (tmps.getD t undef)
 |.cell a t=>do loadVar t (←asAddr (tmps.getD a undef))
theorem qud(hm:Mem base w pu ow hp){t:TypeId}{a:Value}{c d:D}(ha:Rep w pu ow a c)(h:qhS P hp t c=some d):
  ∃v,((asAddr a).bind fun x=>loadVar t x).run P w=.ok v w∧Rep w pu ow v d:=by
 unfold qhS at h
 split at h
 ·obtain⟨b,off,f,rfl,_,hm',hf⟩:=ha.ptr_inv
  obtain⟨v,h1,h2⟩:=qdP (qjy hm' hf) h
  exact⟨v,h1,h2⟩
 ·rename_i b row off
  obtain⟨blk,hb,h⟩:=Option.bind_eq_some_iff.1 h
  have hblk:=hm.blk b blk hb
  have hd:ow b≠ .dead:=fun hd=>by rw[hd]at hblk;exact hblk.2
  obtain⟨g,o,k,sz,hat,rfl⟩:=ha.op_inv hd
  rw[hat]at hblk
  obtain⟨v,h1,h2⟩:=qdP (P:=P) (w:=w) (pu:=pu) (ow:=ow) (b:=g) (off:=o+row*k+off) (cs:=(qb6 blk.rows row).drop off) (fun j c hj=>by
   rw[List.getElem?_drop]at hj
   obtain⟨v,h1,h2⟩:=hblk.cell (qdA hj)
   exact⟨v,by rw[←h1];congr 2;omega,h2⟩) h
  exact⟨v,h1,h2⟩
 ·cases h
theorem qv9{st:St}{a:Act}(hm:Mem base w pu ow (lkH st.hp))(he:qfB w pu ow st.env a){rv:ResultVar}{d:D}(h:qb7 P st rv=some d):
  ∃v,(qv8 a.tmps rv).run P w=.ok v w∧Rep w pu ow v d:=by
 cases rv with
 |tmp t=>
  simp only[qb7,Option.some.injEq]at h
  subst h
  exact⟨_,rfl,he t⟩
 |cell a' t=>exact qud hm (he a') h
theorem qo9{st:St}{a:Act}(hm:Mem base w pu ow (lkH st.hp))(he:qfB w pu ow st.env a):∀(rvs:List ResultVar) (ds:List D),rvs.map (qb7 P st)=ds.map some→
  ∃vs:List Value,(rvs.mapM (qv8 a.tmps)).run P w=.ok vs w∧vs.length=ds.length∧∀(i:Nat) (v:Value) (d:D),vs[i]? =some v→ds[i]? =some d→Rep w pu ow v d
 |[],[],_=>⟨[],by simp,rfl,fun i v d h=>by simp at h⟩
 |[],_::_,h=>by simp at h
 |_::_,[],h=>by simp at h
 |rv::rvs,d::ds,h=>by
  simp only[List.map_cons,List.cons.injEq]at h
  obtain⟨v,h1,h2⟩:=qv9 hm he h.1
  obtain⟨vs,h3,h4,h5⟩:=qo9 hm he rvs ds h.2
  refine⟨v::vs,?_,by simp[h4],fun i v' d' e1 e2=>?_⟩
  ·simp[List.mapM_cons,h1,h3]
  ·cases i with
   |zero=>simp at e1 e2;subst e1 e2;exact h2
   |succ i=>exact h5 i v' d' (by simpa using e1) (by simpa using e2)
theorem qgM{fn:Func}{st:St}{a:Act}(hm:Mem base w pu ow (lkH st.hp))(he:qfB w pu ow st.env a){ds:List D}(h:fn.results.toList.map (qb7 P st)=ds.map some):
  ∃vs:List Value,(results fn a.tmps).run P w=.ok (match vs with|[v]=>v|vs=>.tuple vs.toArray) w∧vs.length=ds.length∧∀(i:Nat) (v:Value) (d:D),vs[i]? =some v→ds[i]? =some d→Rep w pu ow v d:=by
 obtain⟨vs,h1,h2,h3⟩:=qo9 (P:=P) hm he _ _ h
 refine⟨vs,?_,h2,h3⟩
 have hr:results fn a.tmps=(do let vs ←fn.results.mapM (qv8 a.tmps);pure (if h:vs.size=1 then vs[0]else .tuple vs)):=by
  unfold results
  congr 1
 rw[hr,Array.mapM_eq_mapM_toList]
 simp only[Sem.run_bind,Sem.run_map,h1,Result.andThen_ok,Sem.run_pure]
 congr 1
 match vs with
 |[]=>simp
 |[v]=>simp
 |v::u::vs=>simp
theorem qse{fn:Func}{st:St}{a:Act}(hi:qcb w0 S st.nx st a w){ss:List Src}{ds rs fl:List D}(h1:fn.results.toList.map (qb7 P st)=ds.map some)(h2:(qbC ss).Nodup)(hlen:rs.length=ds.length)(h5:rs.length=1→rs.all qjE=true)
  (HF:∀{pu Q:Nat→Prop} {ow owX R:Nat→Ow} (n:Nat),Mem w0.heap.size w pu ow (lkH st.hp)→Mem w0.heap.size w pu owX (qbd (qbC ss) (lkH st.hp))→(∀b,owX b=ow b∨owX b=.dead)→(∀g,pu g→Q g)→(∀b g o k sz,owX b=.lies g o k sz→Q g)→(∀b',n≤b'→R b'=owF ow n ss fl b')→
   (∀b' blk',lkH (adT n rs).2 b'=some blk'→qb5 w Q R (R b') blk')∧(∀b',n≤b'→lkH (adT n rs).2 b'=none→R b'=.pending)∧
   (adT n rs).1.length=ds.length∧∀(i:Nat) (v:Value) (d r:D),ds[i]? =some d→(adT n rs).1[i]? =some r→Rep w pu ow v d→Rep w Q R v r):
  a.defers=S.df∧∃v,(results fn a.tmps).run P w=.ok v w∧qvQ w0 S.z (.ret (qj2 rs)) (.returned v) w:=by
 obtain⟨pu,ow,hm,he,hb,hz,hid,hs,hd⟩:=hi
 obtain⟨vs,g1,g2,g3⟩:=qgM (P:=P) (fn:=fn) hm he h1
 refine⟨hd.1,_,g1,hb,?_⟩
 let owX:Nat→Ow:=fun b=>if b∈qbC ss then .dead else ow b
 have hX:∀b,owX b=ow b∨owX b=.dead:=fun b=>by simp only[owX];split<;>simp
 have hXe:Ext w pu ow w pu owX:=⟨fun g hg=>⟨hg,rfl⟩,fun b=>.inr (hX b)⟩
 have hXat:∀b g o k sz,owX b=.lies g o k sz→b∉qbC ss∧ow b=.lies g o k sz:=fun b g o k sz h=>by
  simp only[owX]at h
  split at h
  ·cases h
  ·rename_i hn;exact⟨hn,h⟩
 have hXon:∀b g,(owX b).on g→b∉qbC ss∧(ow b).on g:=fun b g h=>by
  simp only[owX]at h
  split at h
  ·exact h.elim
  ·rename_i hn;exact⟨hn,h⟩
 have hmX:Mem w0.heap.size w pu owX (qbd (qbC ss) (lkH st.hp)):=by
  refine⟨fun b blk hb=>?_,fun b hb=>?_,fun b b' g e e'=>hm.injO b b' g (hXon _ _ e).2 (hXon _ _ e').2,fun b g e=>hm.ownO b g (hXon _ _ e).2,hm.zone⟩
  ·simp only[qbd]at hb
   split at hb
   ·cases hb
   ·rename_i hn
    have:owX b=ow b:=if_neg hn
    rw[this]
    exact(hm.blk b blk hb).mono hXe fun _ _=>rfl
  ·simp only[qbd]at hb
   split at hb
   ·rename_i hn;left;exact if_pos hn
   ·rename_i hn
    have:owX b=ow b:=if_neg hn
    rw[this]
    exact hm.none b hb
 let Q:Nat→Prop:=fun g=>pu g∨∃b o k sz,owX b=.lies g o k sz
 have hzQ:∀g,pu g→Q g:=fun g h=>.inl h
 have hzX:∀b g o k sz,owX b=.lies g o k sz→Q g:=fun b g o k sz h=>.inr ⟨b,o,k,sz,h⟩
 refine⟨Q,fun g hg=>?_,_,rfl,fun n=>?_⟩
 ·rcases hg with hg|⟨b,o,k,sz,hat⟩
  ·exact⟨hm.zone g hg,hz g hg⟩
  ·have:=(hXat _ _ _ _ _ hat).2
   exact⟨hm.at_lt this,.inr (hm.own b g o k sz this).1⟩
 ·let R:Nat→Ow:=fun b'=>if n≤b' then owF ow n ss fl b' else .pending
  obtain⟨f1,f2,f3,f4⟩:=HF (R:=R) n hm hmX hX hzQ hzX (fun b' hb'=>if_pos hb')
  have hRat:∀b' g,(R b').on g→(owF ow n ss fl b').on g:=fun b' g h=>by
   simp only[R]at h
   split at h
   ·exact h
   ·exact h.elim
  have hMem:Mem w0.heap.size w Q R (lkH (adT n rs).2):=by
   refine⟨f1,fun b' hb'=>.inr ?_,fun b1 b2 g e1 e2=>qnN hm.injO h2 (hRat _ _ e1) (hRat _ _ e2),fun b' g e=>?_,fun g hg=>?_⟩
   ·rcases Nat.lt_or_ge b' n with h|h
    ·exact if_neg (by omega)
    ·exact f2 b' h hb'
   ·obtain⟨_,c,hc,hat⟩:=qmO (hRat _ _ e)
    obtain⟨q1,q2⟩:=hm.ownO c g hat
    refine⟨q1,fun hq=>?_⟩
    rcases hq with hq|⟨b,o2,k2,sz2,hb2⟩
    ·exact q2 hq
    ·obtain⟨q3,q4⟩:=hXat _ _ _ _ _ hb2
     have:=hm.injO b c _ (Ow.on_lies q4) hat
     subst this
     exact q3 hc
   ·rcases hg with hg|⟨b,o,k,sz,hat⟩
    ·exact hm.zone g hg
    ·exact hm.at_lt (hXat _ _ _ _ _ hat).2
  have hpend:∀b',lkH (adT n rs).2 b'=none→R b'=.pending:=fun b' hb'=>by
   rcases Nat.lt_or_ge b' n with h|h
   ·exact if_neg (by omega)
   ·exact f2 b' h hb'
  have htup:∀(vs:List Value),vs.length=ds.length→(∀(i:Nat) (v:Value) (d:D),vs[i]? =some v→ds[i]? =some d→Rep w pu ow v d)→Rep w Q R (.tuple vs.toArray) (.tup (adT n rs).1):=fun vs hvl hvs=>by
   refine .tup _ _ (by simp[f3,hvl]) fun i v r e1 e2=>?_
   have hi:i<ds.length:=by
    have:=(List.getElem?_eq_some_iff.1 e2).1
    omega
   exact f4 i v ds[i] r (List.getElem?_eq_getElem hi) e2 (hvs i v ds[i] (by simpa using e1) (List.getElem?_eq_getElem hi))
  match rs,vs,hlen,g2,h5 with
  |[],[],hl,_,_=>exact⟨R,hMem,htup [] (by simpa using hl) (fun i v d h=>by simp at h),hpend⟩
  |[],_::_,hl,hg,_=>simp only[List.length_nil,List.length_cons]at hl hg;omega
  |_::_,[],hl,hg,_=>simp only[List.length_nil,List.length_cons]at hl hg;omega
  |[_],_::_::_,hl,hg,_=>simp only[List.length_nil,List.length_cons]at hl hg;omega
  |_::_::_,[_],hl,hg,_=>simp only[List.length_nil,List.length_cons]at hl hg;omega
  |r1::r2::rs,v1::v2::vs,hl,hg,_=>exact⟨R,hMem,htup _ hg g3,hpend⟩
  |[r],[v],hl,hg,h5=>
   have hnt:qjE r=true:=by simpa using h5 rfl
   have had:qaO n r=adE n r:=by cases r<;>first|rfl|cases hnt
   have h2':(adT n [r]).2=(adE n r).2:=by simp[adT]
   refine⟨R,?_,?_,?_⟩
   ·show Mem _ _ _ _ (lkH (qaO n r).2)
    rw[had,←h2'];exact hMem
   ·show Rep _ _ _ v (qaO n r).1
    rw[had]
    have hdl:0<ds.length:=by simp at hl;omega
    exact f4 0 v ds[0] _ (List.getElem?_eq_getElem hdl) (by simp[adT]) (g3 0 v ds[0] rfl (List.getElem?_eq_getElem hdl))
   ·show ∀b,lkH (qaO n r).2 b=none→R b=.pending
    rw[had,←h2'];exact hpend
theorem qkV{hp hpX:Nat→Option Blk}:∀{ss:List Src} {ds rs:List D},qoH hp hpX ss ds rs→rs.length=ds.length
 |[],[],[],_=>rfl
 |_::_,_::_,_::_,h=>by simp[qkV h.2]
 |[],_::_,_,h=>h.elim
 |[],[],_::_,h=>h.elim
 |_::_,[],_,h=>by simp[qoH]at h
 |_::_,_::_,[],h=>by simp[qoH]at h
theorem qpa{fn:Func}{st:St}{a:Act}{r:D}(hi:qcb w0 S st.nx st a w)(hf:Fin P fn.results.toList st r):
  a.defers=S.df∧∃v,(results fn a.tmps).run P w=.ok v w∧qvQ w0 S.z (.ret r) (.returned v) w:=by
 rcases hf with⟨ss,ds,rs,h1,h2,h3,rfl,h5⟩|⟨ss,ds,rs,h1,h2,h3,rfl,h5,h6,h7⟩
 ·exact qse hi h1 h2 (qkV h3) h5 fun{pu Q ow owX R} n hm hmX hX hz hzX hR=>qo8 hm hmX hX hz hzX ss ds rs n h3 hR
 ·have hlen:rs.length=ds.length:=by have:=congrArg List.length h6;simpa using this.symm
  refine qse (fl:=rs.flatMap qai) hi h1 h2 hlen h5 fun{pu Q ow owX R} n hm hmX hX hz hzX hR=>?_
  obtain⟨f1,f2,f3,f4⟩:=qo8 hm hmX hX hz hzX ss _ _ n h3 hR
  have e:=qhq (n:=n) h7
  have hl:∀{rs:List D} {m:Nat},(adT m rs).1.length=rs.length:=by
   intro rs
   induction rs with
   |nil=>intro m;rfl
   |cons r rs ih=>intro m;simp only[adT,List.length_cons,ih]
  refine⟨fun b' blk' h=>f1 b' blk' (by rw[←e];exact h),fun b' hb h=>f2 b' hb (by rw[←e];exact h),hl.trans hlen,?_⟩
  exact qsd (R1:=Rep w pu ow) (R2:=Rep w Q R) (fun v cs h=>h.agg_inv) (fun vs cs h1 h2=>.agg vs cs h1 h2) h6 h7 f4
def qab:Nat→List D→Env
 |_,[]=>[]
 |n,d::ds=>(n,d)::qab (n+1) ds
theorem qh7:∀{ds:List D} {n s:Nat},lkE (qab n ds) s=if n≤s then ds.getD (s-n) .undef else .undef
 |[],n,s=>by simp[qab,lkE]
 |d::ds,n,s=>by
  simp only[qab,lkE,qh7 (ds:=ds)]
  by_cases h:s=n
  ·subst h;simp
  ·rw[if_neg h]
   by_cases h2:n≤s
   ·rw[if_pos h2,if_pos (by omega),show s-n=(s-(n+1))+1 by omega,List.getD_cons_succ]
   ·rw[if_neg h2,if_neg (by omega)]
theorem qkW{f:FuncId}{fn:Func}{c:Code}{ds:List D}{out:Outc}(hmix:P.follows .mixedOrders=true)(hf:P.funcs[f]? =some fn)(hb:fn.body=some c)(hname:(fn.name== "runtime.NumGoroutine")=false)
  (hn:ds.length≤fn.ntmps) (h:ev P c (qg3 P fn.results.toList out) ⟨qab 0 ds,[],0,fn.ntmps⟩):Contract P f ds out:=by
 refine⟨⟨fn,hf,by rw[hb];rfl,hname⟩,fun S w args hS ⟨hlen,hargs⟩=>?_⟩
 refine calls_of_wp hf hb ?_
 have hi:qcb w ⟨S,w,S,fun _=>.pending,[]⟩ 0 ⟨qab 0 ds,[],0,fn.ntmps⟩ {tmps:=args++Array.replicate (fn.ntmps-args.size) undef,defers:=[]} w:=by
  refine⟨S,fun _=>.pending,⟨fun b blk hb=>by simp[lkH]at hb,fun b _=>.inr rfl,fun b b' g h=>h.elim,fun b g h=>h.elim,hS⟩,fun s=>?_,Below.refl _ _,fun g hg=>.inl hg,fun b _=>rfl,by simp;omega,rfl,fun g hg=>⟨hg,rfl⟩,fun b=>.inl rfl⟩
  simp only
  rw[qh7,if_pos (Nat.zero_le _),Nat.sub_zero,Array.getD_eq_getD_getElem?,Array.getElem?_append]
  split
  ·rename_i hs
   rw[Array.getElem?_eq_getElem hs,List.getD_eq_getElem?_getD,List.getElem?_eq_getElem (by omega)]
   simp only[Option.getD_some]
   exact .pure _ _ (hargs s _ _ (Array.getElem?_eq_getElem hs) (List.getElem?_eq_getElem (by omega)))
  ·rename_i hs
   rw[List.getD_eq_getElem?_getD,List.getElem?_eq_none (by omega)]
   exact .pure _ _ (.undef _)
 refine wp_mono (qEn hmix c _ _ _ w (fun _=>rfl) hi h) fun e a w' he=>?_
 cases e with
 |normal=>
  obtain⟨st,⟨r,rfl,hfin⟩,hi'⟩:=he
  exact qpa hi' hfin
 |ret=>
  obtain⟨st,⟨r,rfl,hfin⟩,hi'⟩:=he
  exact qpa hi' hfin
 |panic chain=>
  obtain⟨d,st,hk,hdf,hbl,Q,v,rfl,hQ,hv,_⟩:=he
  simp only[qg3]at hk
  subst hk
  exact⟨hdf,hbl,Q,hQ,v,rfl,hv⟩
 |exit id=>obtain⟨st,hk,_⟩:=he;exact hk.elim
 |_=>exact he.elim
end
def qA9(P:Program)(all rest:List Oper)(id:Nat)(K:X→St→Prop):X→St→Prop
 |.normal,st=>qaP P all rest id st K
 |x,st=>K x st
section
variable {P:Program}{E:St→St→Prop}{K:X→St→Prop}{st:St}{env:Env}{hp:Hp}{nx n id:Nat}{dst:Option Tmp}{all rest:List Oper}
theorem qbK{a b:Code}(h:evG E P a (qo6 (evG E P b K) K) st):evG E P (.seq a b) K st:=.inl h
theorem qwa:(fun x st'=>match x with|.normal=>qaP P all rest id st' K|x=>K x st')=qA9 P all rest id K:=by
 funext x st'
 cases x<;>rfl
theorem que{op:Op}{ty:TypeId}{pos:String}{af:Array Edge}:qaP P all ({dst:=dst,op:=op,type:=ty,pos:=pos,after:=af,guard:=none}::rest) id st K=qap P op id dst st (qA9 P all rest (id+32) K):=by
 rw[←qwa];rfl
theorem qmP{op:Op}{ty:TypeId}{pos:String}{af:Array Edge}{j:Nat}{want:Bool}:qaP P all ({dst:=dst,op:=op,type:=ty,pos:=pos,after:=af,guard:=some (j,want)}::rest) id ⟨env,hp,nx,n⟩ K=
  ∃r,qdV all env j=some r∧(∀b,r=some b→(b=want→qap P op id dst ⟨env,hp,nx,n⟩ (qA9 P all rest (id+32) K))∧(b=(!want)→qak n dst=true∧qaP P all rest (id+32) ⟨qdU dst .skip env,hp,nx,n⟩ K))∧
   (r=none→qak n dst=true∧qaP P all rest (id+32) ⟨qdU dst .skip env,hp,nx,n⟩ K):=by
 rw[←qwa]
 apply propext
 simp only[qaP,St.put]
 cases hg:qdV all env j with
 |none=>simp
 |some r=>
  cases r with
  |none=>simp
  |some b=>
   simp only
   constructor
   ·intro h
    exact⟨_,rfl,fun b' hb=>by injection hb with hb;subst hb;exact h,fun hn=>by cases hn⟩
   ·rintro⟨r,h,h1,_⟩;injection h with h;subst h;exact h1 b rfl
theorem qcc{o:Op}(hs:qap P o id dst ⟨env,hp,nx,n⟩ K=match op0 P (qac env) (lkH hp) o with
  |some d=>qcJ ⟨env,hp,nx,n⟩ dst d env hp K
  |none=>
   match op1 P (qac env) o with
   |some (ptr,blk)=>qcJ ⟨env,hp,nx,n⟩ dst (qy3 id ptr blk) env ((id,blk)::hp) K
   |none=>
    match qmb P (qac env) (lkH hp) o with
    |some bs=>∀b∈bs,qcJ ⟨env,hp,nx,n⟩ dst (.bool b) env hp K
    |none=>False) (h1:op1 P (qac env) o=none) (h2:qmb P (qac env) (lkH hp) o=none):qap P o id dst ⟨env,hp,nx,n⟩ K=∃d,op0 P (qac env) (lkH hp) o=some d∧qak n dst=true∧K .normal ⟨qdU dst d env,hp,nx,n⟩:=by
 rw[hs,h1,h2]
 apply propext
 cases op0 P (qac env) (lkH hp) o<;>simp[qcJ]
section
variable {x y z:Operand}{t t':TypeId}
theorem qwb:qap P (.move x) id dst ⟨env,hp,nx,n⟩ K=(qak n dst=true∧K .normal ⟨qdU dst (qac env x) env,hp,nx,n⟩):=rfl
theorem qpb:qap P (.load t x) id dst ⟨env,hp,nx,n⟩ K=∃d,qhS P (lkH hp) t (qac env x)=some d∧qak n dst=true∧K .normal ⟨qdU dst d env,hp,nx,n⟩:=qcc rfl rfl rfl
theorem qh8:qap P (.nilCheck x) id dst ⟨env,hp,nx,n⟩ K=∃d,qga (lkH hp) (qac env x)=some d∧qak n dst=true∧K .normal ⟨qdU dst d env,hp,nx,n⟩:=qcc rfl rfl rfl
theorem quf{op:BinOp}(h:∃d,qoG P op t (qac env x) (qac env y)=some d∧qak n dst=true∧K .normal ⟨qdU dst d env,hp,nx,n⟩):qap P (.binOp op t x y t') id dst ⟨env,hp,nx,n⟩ K:=by
 obtain⟨d,h1,h2,h3⟩:=h
 unfold qap
 have h0:op0 P (qac env) (lkH hp) (.binOp op t x y t')=some d:=h1
 simp only[h0]
 exact⟨h2,h3⟩
theorem qpc{op:UnOp}:qap P (.unOp op t x) id dst ⟨env,hp,nx,n⟩ K=∃d,unD op (qac env x)=some d∧qak n dst=true∧K .normal ⟨qdU dst d env,hp,nx,n⟩:=qcc rfl rfl rfl
theorem qdX:qap P (.convert t t' x) id dst ⟨env,hp,nx,n⟩ K=∃d,qnu P t' t (qac env x)=some d∧qak n dst=true∧K .normal ⟨qdU dst d env,hp,nx,n⟩:=qcc rfl rfl rfl
theorem qwc:qap P (.pick x y z) id dst ⟨env,hp,nx,n⟩ K=∃d,qBY (qac env x) (qac env y) (qac env z)=some d∧qak n dst=true∧K .normal ⟨qdU dst d env,hp,nx,n⟩:=qcc rfl rfl rfl
theorem qug{f:Nat}:qap P (.field t x f) id dst ⟨env,hp,nx,n⟩ K=∃d,qoK P t (qac env x) f=some d∧qak n dst=true∧K .normal ⟨qdU dst d env,hp,nx,n⟩:=qcc rfl rfl rfl
theorem qhc{f:Nat}:qap P (.fieldAddr t x f) id dst ⟨env,hp,nx,n⟩ K=∃d,qdz P (lkH hp) t (qac env x) f=some d∧qak n dst=true∧K .normal ⟨qdU dst d env,hp,nx,n⟩:=qcc rfl rfl rfl
theorem qe6:qap P (.indexAddr t x y) id dst ⟨env,hp,nx,n⟩ K=∃d,qdc P (lkH hp) t (qac env x) (qac env y)=some d∧qak n dst=true∧K .normal ⟨qdU dst d env,hp,nx,n⟩:=qcc rfl rfl rfl
theorem qmQ:qap P (.index t x y) id dst ⟨env,hp,nx,n⟩ K=∃d,qmy P t (qac env x) (qac env y)=some d∧qak n dst=true∧K .normal ⟨qdU dst d env,hp,nx,n⟩:=qcc rfl rfl rfl
theorem qpd{i:Nat}:qap P (.extract x i) id dst ⟨env,hp,nx,n⟩ K=∃d,qj7 (qac env x) i=some d∧qak n dst=true∧K .normal ⟨qdU dst d env,hp,nx,n⟩:=qcc rfl rfl rfl
theorem qi6{lo hi:Option Operand}:qap P (.slice t x lo hi none) id dst ⟨env,hp,nx,n⟩ K=∃d,qjx P (lkH hp) t (qac env x) (lo.map (qac env)) (hi.map (qac env))=some d∧qak n dst=true∧K .normal ⟨qdU dst d env,hp,nx,n⟩:=qcc rfl rfl rfl
theorem qnO{fn:Fn}{xs ys:List Operand}:qap P (.makeFunc fn xs.toArray ys.toArray) id dst ⟨env,hp,nx,n⟩ K=(qak n dst=true∧K .normal ⟨qdU dst (.clo fn (xs.map (qac env)) (ys.map (qac env))) env,hp,nx,n⟩):=rfl
theorem qqR:qap P (.lookup t x y false) id dst ⟨env,hp,nx,n⟩ K=∃d,qiT P (lkH hp) t (qac env x) (qac env y)=some d∧qak n dst=true∧K .normal ⟨qdU dst d env,hp,nx,n⟩:=qcc rfl rfl rfl
theorem qnP:qap P (.call {callee:=.builtin .len,args:= #[x],argTypes:= #[t]}) id dst ⟨env,hp,nx,n⟩ K=∃d,qA0 P (lkH hp) t (qac env x)=some d∧qak n dst=true∧K .normal ⟨qdU dst d env,hp,nx,n⟩:=qcc rfl rfl rfl
theorem qsf{xs:List Operand}{ts:Array TypeId}:qap P (.call {callee:=.builtin .min,args:=(x::xs).toArray,argTypes:=ts}) id dst ⟨env,hp,nx,n⟩ K=∃d,qhl qtZ (qac env x) (xs.map (qac env))=some d∧qak n dst=true∧K .normal ⟨qdU dst d env,hp,nx,n⟩:=qcc rfl rfl rfl
theorem qsg{xs:List Operand}{ts:Array TypeId}:qap P (.call {callee:=.builtin .max,args:=(x::xs).toArray,argTypes:=ts}) id dst ⟨env,hp,nx,n⟩ K=∃d,qhl qt0 (qac env x) (xs.map (qac env))=some d∧qak n dst=true∧K .normal ⟨qdU dst d env,hp,nx,n⟩:=qcc rfl rfl rfl
theorem quh{parts:List (Nat×Operand)}:qap P (.build t parts.toArray) id dst ⟨env,hp,nx,n⟩ K=∃d,qjz P t (parts.map fun(i,x)=>(i,qac env x))=some d∧qak n dst=true∧K .normal ⟨qdU dst d env,hp,nx,n⟩:=by
 apply propext
 simp only[qap]
 cases qjz P t (parts.map fun(i,x)=>(i,qac env x))<;>simp[qcJ]
theorem qui:qap P (.alloc t) id dst ⟨env,hp,nx,n⟩ K=∃z,qjX P t=some z∧(known z=true∧0<(qai z).length)∧qak n dst=true∧K .normal ⟨qdU dst (.op id 0 0) env,(id,⟨(qai z).length,qan [qai z],[qai z]⟩)::hp,nx,n⟩:=by
 apply propext
 simp only[qap,op0,op1,qqL]
 cases qjX P t with
 |none=>simp[qmb]
 |some z=>
  simp only[Option.bind_some,Option.some.injEq,exists_eq_left']
  by_cases h:known z=true∧0<(qai z).length
  ·simp only[qcJ,qy3,if_true,h,true_and,and_self]
  ·simp only[h,false_and,if_false,qmb]
theorem qzf:qap P (.box t x) id dst ⟨env,hp,nx,n⟩ K=((known (qac env x)=true∧0<(qai (qac env x)).length)∧qak n dst=true∧K .normal ⟨qdU dst (.op id 0 0) env,(id,⟨(qai (qac env x)).length,qan [qai (qac env x)],[qai (qac env x)]⟩)::hp,nx,n⟩):=by
 apply propext
 simp only[qap,op0,op1,qqL]
 by_cases h:known (qac env x)=true∧0<(qai (qac env x)).length
 ·simp only[qcJ,qy3,if_true,h,true_and,and_self]
 ·simp only[h,false_and,if_false,qmb]
theorem quj:qap P (.store t x y) id dst ⟨env,hp,nx,n⟩ K=∃bb,qjA P (lkH hp) t (qac env x) (qac env y)=some bb∧qak n dst=true∧K .normal ⟨qdU dst .skip env,qj1 bb.1 bb.2 hp,nx,n⟩:=by
 apply propext
 simp only[qap]
 cases qjA P (lkH hp) t (qac env x) (qac env y)with
 |none=>simp
 |some bb=>obtain⟨b,blk⟩:=bb;simp[qcJ]
end
end
section
variable {P:Program}{E:St→St→Prop}{K:X→St→Prop}{env:Env}{hp:Hp}{nx n id:Nat}{dst:Option Tmp}{all rest:List Oper}
theorem qCf{c:Operand}{a b:Code}{t:Bool}(h:qac env c=.bool t)(h1:t=true→evG E P a K ⟨env,hp,nx,n⟩)(h2:t=false→evG E P b K ⟨env,hp,nx,n⟩):evG E P (.cond c a b) K ⟨env,hp,nx,n⟩:=⟨t,h,h1,h2⟩
theorem qwd{c:Operand}{a b:Code}{t:Bool}(h:qac env c=.bool t)(ht:t=true)(h1:evG E P a K ⟨env,hp,nx,n⟩):evG E P (.cond c a b) K ⟨env,hp,nx,n⟩:=⟨t,h,fun _=>h1,fun hf=>absurd (ht.symm.trans hf) (by decide)⟩
theorem qwe{c:Operand}{a b:Code}{t:Bool}(h:qac env c=.bool t)(ht:t=false)(h1:evG E P b K ⟨env,hp,nx,n⟩):evG E P (.cond c a b) K ⟨env,hp,nx,n⟩:=⟨t,h,fun hf=>absurd (ht.symm.trans hf) (by decide),fun _=>h1⟩
theorem qnQ{op:Op}{ty:TypeId}{pos:String}{af:Array Edge}{j:Nat}{want p:Bool}(hg:qdV all env j=some (some p))(h1:p=want→qap P op id dst ⟨env,hp,nx,n⟩ (qA9 P all rest (id+32) K))
  (h2:p=(!want)→qak n dst=true∧qaP P all rest (id+32) ⟨qdU dst .skip env,hp,nx,n⟩ K):qaP P all ({dst:=dst,op:=op,type:=ty,pos:=pos,after:=af,guard:=some (j,want)}::rest) id ⟨env,hp,nx,n⟩ K:=by
 rw[qmP]
 exact⟨_,hg,fun b hb=>by injection hb with hb;subst hb;exact⟨h1,h2⟩,fun hn=>by cases hn⟩
theorem qEq{op:Op}{ty:TypeId}{pos:String}{af:Array Edge}{j:Nat}{want p:Bool}(hg:qdV all env j=some (some p))(hp':p=want)(h1:qap P op id dst ⟨env,hp,nx,n⟩ (qA9 P all rest (id+32) K)):
  qaP P all ({dst:=dst,op:=op,type:=ty,pos:=pos,after:=af,guard:=some (j,want)}::rest) id ⟨env,hp,nx,n⟩ K:=
 qnQ hg (fun _=>h1) fun h=>by rw[hp']at h;cases want<;>cases h
theorem qCg{op:Op}{ty:TypeId}{pos:String}{af:Array Edge}{j:Nat}{want p:Bool}(hg:qdV all env j=some (some p))(hp':p=(!want))(hd:qak n dst=true)(h1:qaP P all rest (id+32) ⟨qdU dst .skip env,hp,nx,n⟩ K):
  qaP P all ({dst:=dst,op:=op,type:=ty,pos:=pos,after:=af,guard:=some (j,want)}::rest) id ⟨env,hp,nx,n⟩ K:=
 qnQ hg (fun h=>by rw[hp']at h;cases want<;>cases h) fun _=>⟨hd,h1⟩
theorem qCh{op:Op}{ty:TypeId}{pos:String}{af:Array Edge}{j:Nat}{want:Bool}(hg:qdV all env j=some none)(hd:qak n dst=true)(h1:qaP P all rest (id+32) ⟨qdU dst .skip env,hp,nx,n⟩ K):
  qaP P all ({dst:=dst,op:=op,type:=ty,pos:=pos,after:=af,guard:=some (j,want)}::rest) id ⟨env,hp,nx,n⟩ K:=by
 rw[qmP]
 exact⟨_,hg,fun b hb=>absurd hb (by simp),fun _=>⟨hd,h1⟩⟩
theorem qi7{f:Operand}{args:List Operand}{ts:Array TypeId}{g:FuncId}{xs ys args':List D}{r:D}(hf:qac env f=.clo (.func g) xs ys)(hp':qbX (lkH hp) 64 (xs++args.map (qac env)++ys)=some args')
  (hc:Contract P g args' (.ret r)) (ho:(qbV (xs++args.map (qac env)++ys)||qbY r)=true) (hw:qqB r≤32) (hd:qak n dst=true) (h:K .normal ⟨qdU dst (qaO id r).1 env,(qaO id r).2++hp,nx,n⟩):
  qap P (.call {callee:=.value f,args:=args.toArray,argTypes:=ts}) id dst ⟨env,hp,nx,n⟩ K:=by
 simp only[Bool.or_eq_true]at ho
 simp only[qap,qf1,hf]
 refine⟨args',.ret r,by simpa using hp',hc,?_,hw,hd,h⟩
 rcases ho with h|h
 ·exact .inl (by simpa using h)
 ·exact .inr h
theorem qcd{s x:Operand}{t:TypeId}{blk:Blk}(h:qcN P (lkH hp) t (qac env s) (qac env x)=some (none,blk))(hd:qak n dst=true)(hk:K .normal ⟨qdU dst (.os id 0 blk.rows.length) env,(id,blk)::hp,nx,n⟩):
  qap P (.call {callee:=.builtin .append,args:= #[s,x],argTypes:= #[t,t]}) id dst ⟨env,hp,nx,n⟩ K:=by
 simp only[qap,if_true,h]
 exact⟨hd,hk⟩
theorem qgn{s x:Operand}{t:TypeId}{b:Nat}{blk:Blk}(h:qcN P (lkH hp) t (qac env s) (qac env x)=some (some b,blk))(hd:qak n dst=true)(hk:K .normal ⟨qdU dst (.os b 0 blk.rows.length) (qfZ b env),(b,blk)::qg9 b hp,nx,n⟩):
  qap P (.call {callee:=.builtin .append,args:= #[s,x],argTypes:= #[t,t]}) id dst ⟨env,hp,nx,n⟩ K:=by
 simp only[qap,if_true,h]
 exact⟨hd,hk⟩
theorem qjF{t e:TypeId}{l c:Operand}{k k':IntKind}{m m':Int}{z:D}(hu:P.underlying t=some (.slice e))(hl:qac env l=.int k m)(hl':qac env c=.int k' m')(hz:qjX P e=some z)
  (hc:known z=true∧(qai z).length=P.cellsOf e∧0<P.cellsOf e∧0≤m∧m=m'∧m≤2^62∧(P.bytesOf e:Int)*m≤281474976710656) (hd:qak n dst=true)
  (hk:K .normal ⟨qdU dst (.os id 0 m.toNat) env,(id,⟨P.cellsOf e,qan [qai z],List.replicate m.toNat (qai z)⟩)::hp,nx,n⟩):qap P (.makeSlice t l c) id dst ⟨env,hp,nx,n⟩ K:=by
 simp only[qap,op0,op1,hu,hl,hl',hz,Option.bind_some]
 rw[if_pos hc]
 refine⟨hd,?_⟩
 simpa[qy3]using hk
theorem qy4{rv:ResultVar}{d r:D}(h:qb7 P ⟨env,hp,nx,n⟩ rv=some d)(hp':pur (lkH hp) 64 d=some r)(hn:qjE r=true):Fin P [rv] ⟨env,hp,nx,n⟩ r:=by
 refine .inl ⟨[.pure],[d],[r],by simp[h],by simp[qbC],⟨?_,trivial⟩,rfl,fun _=>by simp[hn]⟩
 have:qbd (qbC [.pure]) (lkH hp)=lkH hp:=by funext b;simp[qbd,qbC]
 rw[this]
 exact hp'
theorem qCi{rv:ResultVar}{b k:Nat}{fl:Bool}{rows rows':List (List D)}(h:qb7 P ⟨env,hp,nx,n⟩ rv=some (.os b 0 rows'.length))(hb:lkH hp b=some ⟨k,fl,rows⟩)(hr:if fl=true then rows'=rows else qqJ (qbd [b] (lkH hp)) 64 rows=some rows'):
  Fin P [rv] ⟨env,hp,nx,n⟩ (.fr k rows'):=
 .inl ⟨[.blk b],[.os b 0 rows'.length],[.fr k rows'],by simp[h],by simp[qbC],⟨⟨⟨k,fl,rows⟩,rows',rfl,hb,rfl,hr⟩,trivial⟩,rfl,fun _=>rfl⟩
theorem qzg{rv:ResultVar}{k:Nat}(h:qb7 P ⟨env,hp,nx,n⟩ rv=some .nilsl):Fin P [rv] ⟨env,hp,nx,n⟩ (.fr k []):=
 .inl ⟨[.nil],[.nilsl],[.fr k []],by simp[h],by simp[qbC],⟨⟨rfl,k,rfl⟩,trivial⟩,rfl,fun _=>rfl⟩
def qwf(hp:Nat→Option Blk):List D→List D→Prop
 |[],[]=>True
 |d::ds,r::rs=>pur hp 64 d=some r∧qwf hp ds rs
 |_,_=>False
theorem qpe{hp:Nat→Option Blk}:∀{ds rs:List D},qwf hp ds rs→qoH hp (qbd (qbC (ds.map fun _=>.pure)) hp) (ds.map fun _=>.pure) ds rs∧qbC (ds.map fun _=>Src.pure)=[]
 |[],[],_=>⟨trivial,rfl⟩
 |d::ds,r::rs,h=>by
   obtain⟨h1,h2⟩:=h
   obtain⟨h3,h4⟩:=qpe h2
   have hw:qbd (qbC (ds.map fun _=>Src.pure)) hp=hp:=by funext b;simp[qbd,h4]
   have e:qbC ((d::ds).map fun _=>Src.pure)=[]:=by simpa[qbC]using h4
   refine⟨⟨?_,?_⟩,e⟩
   ·simp only[qHb]
    have:qbd (qbC ((d::ds).map fun _=>Src.pure)) hp=hp:=by rw[e];funext b;simp[qbd]
    rw[this];exact h1
   ·rw[e]
    rw[h4]at h3
    exact h3
 |[],_::_,h=>h.elim
 |_::_,[],h=>h.elim
theorem qIt{rv:List ResultVar}{ds rs:List D}(h:rv.map (qb7 P ⟨env,hp,nx,n⟩)=ds.map some)(hp':qwf (lkH hp) ds rs)(hn:2≤rs.length):Fin P rv ⟨env,hp,nx,n⟩ (.tup rs):=by
 obtain⟨h1,h2⟩:=qpe hp'
 refine .inl ⟨ds.map fun _=>.pure,ds,rs,h,by rw[h2];simp,h1,?_,fun h=>by omega⟩
 match rs,hn with
 |[_],hn=>simp at hn
 |[],hn=>simp at hn
 |_::_::_,_=>rfl
theorem qbs{rv:List ResultVar}{st:St}{r:D}(h:Fin P rv st r):qg3 P rv (.ret r) .ret st:=⟨r,rfl,h⟩
theorem qdB{rv:List ResultVar}{st:St}{r:D}(h:Fin P rv st r):qg3 P rv (.ret r) .normal st:=⟨r,rfl,h⟩
theorem qwg{rv:List ResultVar}{st:St}{r r':D}(h:Fin P rv st r')(e:r'=r):qg3 P rv (.ret r) .ret st:=⟨r,rfl,e▸h⟩
theorem quk{rv:List ResultVar}{st:St}{r r':D}(h:Fin P rv st r')(e:r'=r):qg3 P rv (.ret r) .normal st:=⟨r,rfl,e▸h⟩
end
end Go.Pv

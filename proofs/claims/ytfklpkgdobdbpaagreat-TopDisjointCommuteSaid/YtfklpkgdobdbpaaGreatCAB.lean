import Derived.LoopN
import Derived.Scope
import Derived.Test.YtfklpkgdobdbpaaGreatCAA
/- Part of the proofs over YtfklpkgdobdbpaaGreat: PvU, PvV, PvW, PvWa, PvXa, PvXb, PvX, PvY, PvZ, PwA, PwB. -/
set_option linter.unusedVariables false
set_option linter.unusedSimpArgs false
set_option linter.unnecessarySimpa false
namespace Go.Pv
def qfM(o:Oper)(j:Nat):Bool:=o.after.any fun e=>Region.binds .any e&&e.on==j
def qfA(f:St→Prop):X→St→Prop
 |.normal,st=>f st
 |_,_=>False
def qbY(o:Op):List Tmp:=o.operands.toList.filterMap fun|.tmp t=>some t|_=>none
def qaL(all:List Oper)(j:Nat):Option Tmp:=(all[j]?).bind (·.dst)
def qDO(all:List Oper)(m i:Nat):Bool:=
 match all[i]? with
 |none=>false
 |some o=>
  qgY o.op&&(match o.guard with
   |some (j,_)=>decide (j<m)&&qfM o j
   |none=>true)&&
  (List.range m).all fun j=>match qaL all j with
   |none=>true
   |some s=>(!(qbY o.op).contains s||qfM o j)&&(j==i||o.dst !=some s)
def qeg:List Oper→Nat→Bool
 |[],_=>true
 |o::l,i=>(o.after.all fun e=> !Region.binds .any e||decide (e.on<i))&&qeg l (i+1)
def qz0(acc:List Nat)(o:Oper):Nat:=o.after.foldl (fun s e=>if Region.binds .any e then s|||2^e.on|||acc.getD e.on 0 else s) 0
def qjm:List Oper→List Nat→List Nat
 |[],acc=>acc
 |o::l,acc=>qjm l (acc++[qz0 acc o])
def qmw(all:List Oper)(m:Nat):Bool:=
 let ms:=qjm all []
 (List.range all.length).all fun k=>decide (k<m)||ms.getD k 0==2^k-1
def qfN(all:List Oper)(m:Nat):Bool:=decide (m≤all.length)&&qeg all 0&&qmw all m&&(List.range m).all (qDO all m)
inductive TB(all:List Oper):Nat→Nat→Prop
 |step (i:Nat) (o:Oper) (e:Edge) (ho:all[i]? =some o) (he:e∈o.after) (hb:Region.binds .any e=true):TB all e.on i
 |more (i j:Nat) (o:Oper) (e:Edge) (ho:all[i]? =some o) (he:e∈o.after) (hb:Region.binds .any e=true) (h:TB all j e.on):TB all j i
theorem qlE{acc:List Nat}{p:Nat→Edge→Prop}:∀(es:List Edge) (s:Nat) (j:Nat),(es.foldl (fun s e=>if Region.binds .any e then s|||2^e.on|||acc.getD e.on 0 else s) s).testBit j=true→
  s.testBit j=true∨∃e∈es,Region.binds .any e=true∧(e.on=j∨(acc.getD e.on 0).testBit j=true)
 |[],s,j,h=>.inl h
 |e::es,s,j,h=>by
  rw[List.foldl_cons]at h
  rcases qlE (p:=p) es _ j h with h|⟨e',he,h⟩
  ·split at h
   ·rename_i hb
    simp only[Nat.testBit_or,Bool.or_eq_true,Nat.testBit_two_pow]at h
    rcases h with(h|h)|h
    ·exact .inl h
    ·exact .inr ⟨e,by simp,hb,.inl (by simpa using h)⟩
    ·exact .inr ⟨e,by simp,hb,.inr h⟩
   ·exact .inl h
  ·exact .inr ⟨e',by simp[he],h⟩
theorem qir{all:List Oper}:∀(l:List Oper) (acc:List Nat),(∀k,l[k]? =all[acc.length+k]?)→
  (∀i j,(acc.getD i 0).testBit j=true→TB all j i)→∀i j,((qjm l acc).getD i 0).testBit j=true→TB all j i
 |[],acc,hl,h,i,j,ht=>h i j ht
 |o::l,acc,hl,h,i,j,ht=>by
  refine qir l (acc++[qz0 acc o]) (fun k=>?_) (fun i j ht=>?_) i j ht
  ·have:=hl (k+1)
   simp only[List.getElem?_cons_succ]at this
   rw[this]
   simp[Nat.add_assoc,Nat.add_comm 1 k]
  ·rw[List.getD_eq_getElem?_getD,List.getElem?_append]at ht
   split at ht
   ·exact h i j (by rw[List.getD_eq_getElem?_getD];exact ht)
   ·rename_i hi
    by_cases he:i=acc.length
    ·subst he
     simp only[Nat.sub_self,List.getElem?_cons_zero,Option.getD_some]at ht
     have ho:all[acc.length]? =some o:=by have:=hl 0;simpa using this.symm
     unfold qz0 at ht
     rw[←Array.foldl_toList]at ht
     rcases qlE (p:=fun _ _=>True) o.after.toList 0 j ht with h0|⟨e,he,hb,hj|hj⟩
     ·simp at h0
     ·subst hj
      exact .step _ o e ho (by simpa using he) hb
     ·exact .more _ j o e ho (by simpa using he) hb (h _ _ hj)
    ·rw[List.getElem?_eq_none (by simp;omega)]at ht
     simp at ht
theorem qiZ{all:List Oper}{m:Nat}(h:qmw all m=true){k j:Nat}(hm:m≤k)(hk:k<all.length)(hj:j<k):TB all j k:=by
 unfold qmw at h
 simp only[List.all_eq_true,List.mem_range,Bool.or_eq_true,decide_eq_true_eq,beq_iff_eq]at h
 rcases h k hk with h|h
 ·omega
 ·refine qir all [] (by simp) (fun i j h=>by simp at h) k j ?_
  rw[h]
  simp[Nat.testBit_two_pow_sub_one,hj]
theorem qbU:∀{l:List Oper} {n:Nat},qeg l n=true→∀{i:Nat} {o:Oper} {e:Edge},l[i]? =some o→e∈o.after→Region.binds .any e=true→e.on<n+i
 |[],n,_,i,o,e,ho,_,_=>by simp at ho
 |o'::l,n,h,i,o,e,ho,he,hb=>by
  simp only[qeg,Bool.and_eq_true]at h
  cases i with
  |zero=>
   simp at ho
   subst ho
   have:=(Array.all_eq_true'.1 h.1) e he
   rw[hb]at this
   simpa using this
  |succ i=>
   have:=qbU h.2 (i:=i) (by simpa using ho) he hb
   omega
theorem qdI{o:Oper}{j:Nat}(h:qfM o j=true):∃e∈o.after,Region.binds .any e=true∧e.on=j:=by
 unfold qfM at h
 obtain⟨i,hi,h⟩:=Array.any_eq_true.1 h
 simp only[Bool.and_eq_true,beq_iff_eq]at h
 exact⟨_,Array.getElem_mem hi,h.1,h.2⟩
section
variable (all:List Oper)(qgc:Env)(hp0:Hp)(dv:Nat→D)(nb:Nat→Hp)
def qch:Nat→Env
 |0=>qgc
 |i+1=>qdF (qaL all i) (dv i) (qch i)
def qcY:Nat→Hp
 |0=>hp0
 |i+1=>nb i++qcY i
end
def Ran(P:Program)(all:List Oper)(o:Oper)(id:Nat)(env:Env)(hp:Nat→Option Blk)(d:D)(nb:Hp):Prop:=
 match o.guard with
 |none=>OpA P (qab env) hp id o.op d nb
 |some (j,want)=>∃r,qdG all env j=some r∧if r=some want then OpA P (qab env) hp id o.op d nb else d=.skip∧nb=[]
section
variable {P:Program}{all:List Oper}{qgc:Env}{hp0:Hp}{dv dv':Nat→D}{nb nb':Nat→Hp}{id0 m:Nat}
theorem qj6:∀{i:Nat},(∀j,j<i→dv j=dv' j)→qch all qgc dv i=qch all qgc dv' i
 |0,_=>rfl
 |i+1,h=>by simp only[qch];rw[qj6 fun j hj=>h j (by omega),h i (by omega)]
theorem qlF:∀{i:Nat},(∀j,j<i→nb j=nb' j)→qcY hp0 nb i=qcY hp0 nb' i
 |0,_=>rfl
 |i+1,h=>by simp only[qcY];rw[qlF fun j hj=>h j (by omega),h i (by omega)]
theorem qgi(dst:Option Tmp)(d:D)(env:Env)(s:Nat):lkE (qdF dst d env) s=if dst=some s then d else lkE env s:=by
 cases dst with
 |none=>simp[qdF]
 |some t=>
  simp only[qdF,lkE]
  by_cases h:s=t
  ·subst h;simp
  ·rw[if_neg h,if_neg (by simpa using Ne.symm h)]
theorem qcN{s:Nat}:∀{i:Nat},(∀j,j<i→qaL all j≠some s)→lkE (qch all qgc dv i) s=lkE qgc s
 |0,_=>rfl
 |i+1,h=>by
  simp only[qch,qgi]
  rw[if_neg (h i (by omega))]
  exact qcN fun j hj=>h j (by omega)
theorem qfO{s j:Nat}(hj:qaL all j=some s):∀{i:Nat},j<i→(∀k,k<i→k≠j→qaL all k≠some s)→lkE (qch all qgc dv i) s=dv j
 |0,h,_=>by omega
 |i+1,h,hd=>by
  simp only[qch,qgi]
  by_cases he:i=j
  ·subst he;rw[if_pos hj]
  ·rw[if_neg (hd i (by omega) he)]
   exact qfO hj (by omega) fun k hk=>hd k (by omega)
theorem qtW{ρ:Operand→D}{hp:Nat→Option Blk}{id:Nat}{o:Op}{d:D}{nb:Hp}(h:OpA P ρ hp id o d nb){b:Nat}(hb:(lkH nb b).isSome):id≤b∧b<id+32:=by
 unfold OpA at h
 split at h
 ·obtain⟨g,xs,ys,args',r,hf,hpur,hcon,hown,hw,hd,rfl⟩:=h
  have:=qcM hb
  omega
 ·rw[h.2]at hb;cases hb
 ·rcases h with⟨_,rfl⟩|⟨ptr,blk,_,_,rfl⟩
  ·cases hb
  ·simp only[lkH]at hb
   split at hb
   ·omega
   ·cases hb
theorem qqA{d:D}{n b:Nat}{blk:Blk}(h:lkH (adC n d).2 b=some blk):blk.flat=true→qal blk.rows=true:=by
 cases d<;>simp only[adC,lkH]at h<;>try cases h
 split at h
 ·injection h with h;subst h;exact id
 ·cases h
theorem qqB:∀{ds:List D} {n b:Nat} {blk:Blk},lkH (adL n ds).2 b=some blk→blk.flat=true→qal blk.rows=true
 |[],n,b,blk,h=>by simp[adL,lkH]at h
 |d::ds,n,b,blk,h=>by
  simp only[adL,qaO,Option.or_eq_some_iff]at h
  rcases h with h|⟨_,h⟩
  ·exact qqA h
  ·exact qqB h
theorem qqC{d:D}{n b:Nat}{blk:Blk}(h:lkH (adE n d).2 b=some blk):blk.flat=true→qal blk.rows=true:=by
 cases d with
 |agg cs=>exact qqB h
 |_=>exact qqA h
theorem qqD:∀{ds:List D} {n b:Nat} {blk:Blk},lkH (adT n ds).2 b=some blk→blk.flat=true→qal blk.rows=true
 |[],n,b,blk,h=>by simp[adT,lkH]at h
 |d::ds,n,b,blk,h=>by
  simp only[adT,qaO,Option.or_eq_some_iff]at h
  rcases h with h|⟨_,h⟩
  ·exact qqC h
  ·exact qqD h
theorem qsi{d:D}{n b:Nat}{blk:Blk}(h:lkH (qaM n d).2 b=some blk):blk.flat=true→qal blk.rows=true:=by
 cases d with
 |tup cs=>exact qqD h
 |_=>exact qqC h
theorem qmx{ρ:Operand→D}{hp:Nat→Option Blk}{id:Nat}{o:Op}{d:D}{nb:Hp}(h:OpA P ρ hp id o d nb){b:Nat}{blk:Blk}(hb:lkH nb b=some blk):blk.flat=true→qal blk.rows=true:=by
 unfold OpA at h
 split at h
 ·obtain⟨g,xs,ys,args',r,hf,hpur,hcon,hown,hw,hd,rfl⟩:=h
  exact qsi hb
 ·rw[h.2]at hb;cases hb
 ·rcases h with⟨_,rfl⟩|⟨ptr,blk,hop,_,rfl⟩
  ·cases hb
  ·simp only[lkH]at hb
   split at hb
   ·injection hb with hb;subst hb;exact qmu hop
   ·cases hb
theorem qhy{o:Oper}{id:Nat}{env:Env}{hp:Nat→Option Blk}{d:D}{nb:Hp}(h:Ran P all o id env hp d nb):OpA P (qab env) hp id o.op d nb∨nb=[]:=by
 unfold Ran at h
 split at h
 ·exact .inl h
 ·obtain⟨r,_,h⟩:=h
  split at h
  ·exact .inl h
  ·exact .inr h.2
theorem qj7{o:Oper}{id:Nat}{env:Env}{hp:Nat→Option Blk}{d:D}{nb:Hp}(h:Ran P all o id env hp d nb){b:Nat}(hb:(lkH nb b).isSome):id≤b∧b<id+32:=by
 rcases qhy h with h|rfl
 ·exact qtW h hb
 ·cases hb
structure Trace(P:Program)(all:List Oper)(m:Nat)(qgc:Env)(hp0:Hp)(id0:Nat)(n:Nat)(dv:Nat→D)(nb:Nat→Hp):Prop where
 ran:∀(i:Nat) (o:Oper),i<m→all[i]? =some o→Ran P all o (id0+32*i) (qch all qgc dv i) (lkH (qcY hp0 nb i)) (dv i) (nb i)
 dst:∀(i:Nat),i<m→qai n (qaL all i)=true
theorem qfd{K:X→St→Prop}{n:Nat}(hlen:m≤all.length)(hkind:∀i o,i<m→all[i]? =some o→qgY o.op=true):∀(r i:Nat) (dv:Nat→D) (nb:Nat→Hp) (st:St),i+r=m→st.env=qch all qgc dv i→st.hp=qcY hp0 nb i→st.n=n→
  (∀(j:Nat) (o:Oper),j<i→all[j]? =some o→Ran P all o (id0+32*j) (qch all qgc dv j) (lkH (qcY hp0 nb j)) (dv j) (nb j))→(∀j,j<i→qai n (qaL all j)=true)→
  qaK P all ((all.drop i).take r) (id0+32*i) st (qfA (K .normal))→
  ∃dv nb,Trace P all m qgc hp0 id0 n dv nb∧K .normal ⟨qch all qgc dv m,qcY hp0 nb m,id0+32*m,n⟩
 |0,i,dv,nb,st,hi,he,hh,hn,hr,hd,h=>by
  simp only[Nat.add_zero]at hi
  subst hi
  refine⟨dv,nb,⟨hr,hd⟩,?_⟩
  simp only[List.take_zero,qaK]at h
  rw[←he,←hh,←hn]
  exact h
 |r+1,i,dv,nb,st,hi,he,hh,hn,hr,hd,h=>by
  have hlt:i<all.length:=by omega
  have ho:all[i]? =some all[i]:=List.getElem?_eq_getElem hlt
  have hcons:(all.drop i).take (r+1)=all[i]::(all.drop (i+1)).take r:=by
   rw[List.drop_eq_getElem_cons hlt,List.take_succ_cons]
  have hdst:qaL all i=all[i].dst:=by simp[qaL,ho]
  rw[hcons]at h
  have key:∀(d:D) (nbi:Hp),Ran P all all[i] (id0+32*i) st.env (lkH st.hp) d nbi→qai st.n all[i].dst=true→
    qaK P all ((all.drop (i+1)).take r) (id0+32*i+32) {st with env:=qdF all[i].dst d st.env,hp:=nbi++st.hp} (qfA (K .normal))→
    ∃dv nb,Trace P all m qgc hp0 id0 n dv nb∧K .normal ⟨qch all qgc dv m,qcY hp0 nb m,id0+32*m,n⟩:=by
   intro d nbi h1 h2 h3
   let dv1:Nat→D:=fun j=>if j=i then d else dv j
   let nb1:Nat→Hp:=fun j=>if j=i then nbi else nb j
   have e1:∀k,k≤i→qch all qgc dv1 k=qch all qgc dv k:=fun k hk=>qj6 fun j hj=>if_neg (by omega)
   have e2:∀k,k≤i→qcY hp0 nb1 k=qcY hp0 nb k:=fun k hk=>qlF fun j hj=>if_neg (by omega)
   refine qfd hlen hkind r (i+1) dv1 nb1 {st with env:=qdF all[i].dst d st.env,hp:=nbi++st.hp} (by omega) ?_ ?_ hn (fun j o hj hoj=>?_) (fun j hj=>?_) (by rw[show id0+32*(i+1)=id0+32*i+32 by omega];exact h3)
   ·simp only[qch,e1 i (Nat.le_refl _),hdst,←he]
    simp[dv1]
   ·simp only[qcY,e2 i (Nat.le_refl _),←hh]
    simp[nb1]
   ·by_cases hji:j=i
    ·subst hji
     rw[ho]at hoj
     injection hoj with hoj;subst hoj
     rw[e1 j (Nat.le_refl _),e2 j (Nat.le_refl _),←he,←hh]
     simpa[dv1,nb1]using h1
    ·rw[e1 j (by omega),e2 j (by omega)]
     simpa[dv1,nb1,hji]using hr j o (by omega) hoj
   ·by_cases hji:j=i
    ·subst hji;rw[hdst,←hn];exact h2
    ·exact hd j (by omega)
  have hrun:qan P all[i].op (id0+32*i) all[i].dst st (fun x st'=>match x with
    |.normal=>qaK P all ((all.drop (i+1)).take r) (id0+32*i+32) st' (qfA (K .normal))
    |x=>qfA (K .normal) x st')→
    ∃d nbi,OpA P (qab st.env) (lkH st.hp) (id0+32*i) all[i].op d nbi∧qai st.n all[i].dst=true∧
     qaK P all ((all.drop (i+1)).take r) (id0+32*i+32) {st with env:=qdF all[i].dst d st.env,hp:=nbi++st.hp} (qfA (K .normal)):=by
   intro h
   rcases qB9 (hkind i _ (by omega) ho) h with⟨d,nbi,h1,h2,h3⟩|⟨d,h⟩
   ·exact⟨d,nbi,h1,h2,h3⟩
   ·exact h.elim
  unfold qaK at h
  simp only at h
  split at h
  ·rename_i hg
   obtain⟨d,nbi,h1,h2,h3⟩:=hrun h
   exact key d nbi (by unfold Ran;rw[hg];exact h1) h2 h3
  ·rename_i j want hg
   split at h
   ·rename_i b hgd
    by_cases hb:b=want
    ·obtain⟨d,nbi,h1,h2,h3⟩:=hrun (h.1 hb)
     refine key d nbi ?_ h2 h3
     unfold Ran
     rw[hg]
     exact⟨_,hgd,by rw[if_pos (by rw[hb])];exact h1⟩
    ·obtain⟨h1,h2⟩:=h.2 (by cases b<;>cases want<;>simp_all)
     refine key .skip [] ?_ h1 h2
     unfold Ran
     rw[hg]
     exact⟨_,hgd,by rw[if_neg (by simpa using hb)];exact⟨rfl,rfl⟩⟩
   ·rename_i hgd
    obtain⟨h1,h2⟩:=h
    refine key .skip [] ?_ h1 h2
    unfold Ran
    rw[hg]
    exact⟨_,hgd,by rw[if_neg (by simp)];exact⟨rfl,rfl⟩⟩
   ·exact h.elim
end
def G(w0:World)(S:Frm)(all:List Oper)(m id0 n:Nat)(dv:Nat→D)(nb:Nat→Hp)(E:Env)(hp:Nat→Option Blk)(L:Nat→Bool)(a:Act)(w:World):Prop:=
 ∃(pu:Nat→Prop) (ow:Nat→Ow),Mem w0.heap.size w pu ow hp∧
  (∀j s,j<m→L j=true→qaL all j=some s→Rep w pu ow (a.tmps.getD s undef) (dv j))∧
  (∀s,(∀j,j<m→qaL all j≠some s)→Rep w pu ow (a.tmps.getD s undef) (lkE E s))∧
  Below w0.heap.size w0 w∧(∀g,pu g→S g∨w0.heap.size≤g)∧
  (∀j b,j<m→L j=false→(lkH (nb j) b).isSome→ow b=.pending)∧(∀b,id0+32*m≤b→ow b=.pending)∧a.tmps.size=n∧a.defers=S.df∧Kp S w pu ow
structure ChkA(all:List Oper)(m i:Nat)(o:Oper):Prop where
 kind:qgY o.op=true
 guard:∀j want,o.guard=some (j,want)→j<m∧qfM o j=true
 slot:∀j s,j<m→qaL all j=some s→s∈qbY o.op→qfM o j=true
 dst:∀j s,j<m→j≠i→qaL all j=some s→o.dst≠some s
theorem qj8{all:List Oper}{m i:Nat}(h:qDO all m i=true):∃o,all[i]? =some o∧ChkA all m i o:=by
 unfold qDO at h
 split at h
 ·cases h
 ·rename_i o ho
  simp only[Bool.and_eq_true,List.all_eq_true,List.mem_range]at h
  obtain⟨⟨h1,h2⟩,h3⟩:=h
  refine⟨o,ho,h1,fun j want hg=>?_,fun j s hj hd hs=>?_,fun j s hj hji hd hds=>?_⟩
  ·rw[hg]at h2
   simpa using h2
  ·have:=h3 j hj
   rw[hd]at this
   simp only[Bool.and_eq_true,Bool.or_eq_true,Bool.not_eq_true',List.contains_eq_mem,decide_eq_false_iff_not]at this
   rcases this.1 with h|h
   ·exact(h hs).elim
   ·exact h
  ·have:=h3 j hj
   rw[hd]at this
   simp only[Bool.and_eq_true,Bool.or_eq_true,beq_iff_eq,bne_iff_ne]at this
   rcases this.2 with h|h
   ·exact hji h
   ·exact h hds
theorem qfP(f:Nat→D):∀(sl:List Nat) (s:Nat),lkE (sl.map fun s=>(s,f s)) s=if s∈sl then f s else .undef
 |[],s=>rfl
 |t::sl,s=>by
  simp only[List.map_cons,lkE,List.mem_cons]
  by_cases h:s=t
  ·subst h;simp
  ·rw[if_neg h,qfP f sl s]
   simp[h]
theorem qsj{env:Env}{sl:List Nat}{o:Op}(hs:∀s∈qbY o,s∈sl):∀x∈o.operands,qab env x=qab (sl.map fun s=>(s,lkE env s)) x:=by
 intro x hx
 cases x with
 |tmp t=>
  have:t∈sl:=hs t (by
   unfold qbY
   exact List.mem_filterMap.2 ⟨.tmp t,by simpa using hx,rfl⟩)
  simp only[qab,qfP,if_pos this]
 |_=>rfl
section
variable {P:Program}{w w0:World}{S:Frm}{all:List Oper}{m id0 n:Nat}{dv:Nat→D}{nb:Nat→Hp}{E qgc:Env}{hp:Nat→Option Blk}{L:Nat→Bool}{a:Act}{Q:Exit→Act→World→Prop}
theorem qnT{env env':Env}{j:Nat}(h:∀s,qaL all j=some s→lkE env s=lkE env' s):qdG all env j=qdG all env' j:=by
 unfold qdG
 unfold qaL at h
 split
 ·rename_i s hs
  rw[h s hs]
 ·rfl
theorem qtX{i:Nat}{o:Oper}{K:Act→World→Prop}(hG:G w0 S all m id0 n dv nb E hp L a w)(ho:all[i]? =some o)(hc:∀i,i<m→∃o,all[i]? =some o∧ChkA all m i o)(hi:i<m)
  (hL:L i=false) (hpre:∀j,qfM o j=true→L j=true∧j<i) (hE:∀s,(∀j,j<m→qaL all j≠some s)→s∈qbY o.op→lkE E s=lkE (qch all qgc dv i) s)
  (hran:Ran P all o (id0+32*i) (qch all qgc dv i) hp (dv i) (nb i)) (hnb:∀b blk,lkH (nb i) b=some blk→hp b=some blk)
  (hdj:∀j,j<m→j≠i→∀b,(lkH (nb j) b).isSome→lkH (nb i) b=none) (hbig:∀b,id0+32*m≤b→lkH (nb i) b=none) (hdst:qai n (qaL all i)=true)
  (hK:∀a' w',G w0 S all m id0 n dv nb E hp (fun j=>if j=i then true else L j) a' w'→K a' w'):wpOp P all.toArray Q i K a w:=by
 obtain⟨pu,ow,hm,c1,c2,hb,hz,hp1,hp2,hs,hd⟩:=hG
 obtain⟨o',ho',hca⟩:=hc i hi
 rw[ho]at ho'
 injection ho' with ho';subst ho'
 have hod:qaL all i=o.dst:=by simp[qaL,ho]
 have uniq:∀j k s,j<m→k<m→k≠j→qaL all j=some s→qaL all k≠some s:=by
  intro j k s hj hk hkj hjs hks
  obtain⟨oj,hoj,hcj⟩:=hc j hj
  exact hcj.dst k s hk hkj hks (by simpa[qaL,hoj]using hjs)
 have key:∀j s,j<m→qfM o j=true→qaL all j=some s→Rep w pu ow (a.tmps.getD s undef) (lkE (qch all qgc dv i) s):=by
  intro j s hj hbj hjs
  obtain⟨h1,h2⟩:=hpre j hbj
  rw[qfO hjs h2 fun k hk hkj=>uniq j k s hj (by omega) hkj hjs]
  exact c1 j s hj h1 hjs
 let gsl:List Nat:=match o.guard with
  |some (j,_)=>(qaL all j).toList
  |none=>[]
 let E':Env:=(qbY o.op++gsl).map fun s=>(s,lkE (qch all qgc dv i) s)
 have he:qe5 w pu ow E' a:=by
  intro s
  simp only[E',qfP]
  split
  ·rename_i hsl
   by_cases hex:∃j,j<m∧qaL all j=some s
   ·obtain⟨j,hj,hjs⟩:=hex
    simp only[List.mem_append]at hsl
    rcases hsl with hsl|hsl
    ·exact key j s hj (hca.slot j s hj hjs hsl) hjs
    ·simp only[gsl]at hsl
     split at hsl
     ·rename_i j' want hg
      obtain⟨h1,h2⟩:=hca.guard j' want hg
      exact key j' s h1 h2 (by simpa using hsl)
     ·simp at hsl
   ·have hno:∀j,j<m→qaL all j≠some s:=fun j hj h=>hex ⟨j,hj,h⟩
    rw[←hE s hno]
    ·exact c2 s hno
    ·simp only[List.mem_append]at hsl
     rcases hsl with hsl|hsl
     ·exact hsl
     ·simp only[gsl]at hsl
      split at hsl
      ·rename_i j' want hg
       obtain⟨h1,h2⟩:=hca.guard j' want hg
       exact(hno j' h1 (by simpa using hsl)).elim
      ·simp at hsl
  ·exact .pure _ _ (.undef _)
 have skip:dv i=.skip→nb i=[]→K (a.put o.dst undef) w:=by
  intro h1 h2
  refine hK _ _ ⟨pu,ow,hm,fun j s hj hLj hjs=>?_,fun s hno=>?_,hb,hz,fun j b hj hLj hbj=>?_,hp2,by rw[qcH];exact hs,by rw[qbK];exact hd.1,hd.2⟩
  ·by_cases hji:j=i
   ·subst hji
    rw[h1]
    rw[hod]at hjs hdst
    rw[hjs]at hdst ⊢
    simp only[qai,decide_eq_true_eq]at hdst
    rw[qfL (by rw[hs];exact hdst),if_pos rfl]
    exact .pure _ _ .skip
   ·simp only[if_neg hji]at hLj
    have:=c1 j s hj hLj hjs
    cases hdd:o.dst with
    |none=>exact this
    |some t=>
     rw[hod,hdd]at hdst
     simp only[qai,decide_eq_true_eq]at hdst
     rw[qfL (by rw[hs];exact hdst),if_neg]
     ·exact this
     ·rintro rfl
      exact hca.dst j s hj hji hjs hdd
  ·have:=c2 s hno
   cases hdd:o.dst with
   |none=>exact this
   |some t=>
    rw[hod,hdd]at hdst
    simp only[qai,decide_eq_true_eq]at hdst
    rw[qfL (by rw[hs];exact hdst),if_neg]
    ·exact this
    ·rintro rfl
     exact hno i hi (by rw[hod,hdd])
  ·by_cases hji:j=i
   ·subst hji;simp at hLj
   ·simp only[if_neg hji]at hLj
    exact hp1 j b hj hLj hbj
 have run:OpA P (qab (qch all qgc dv i)) hp (id0+32*i) o.op (dv i) (nb i)→o.wp P a w K Q:=by
  intro hop
  have hop':=qjw (hq:=hp) (fun b blk h=>h) (qsj (sl:=qbY o.op++gsl) (env:=qch all qgc dv i) (fun s hs=>by simp[hs])) hop
  refine qB8 (hq:=hp) hm hb.size he.eval hop' (fun b=>?_) (fun b hbs=>hp1 i b hi hL hbs) fun v w' pu' ow' m1 m2 m3 m4 m5 m6=>?_
  ·cases hl:lkH (nb i) b with
   |none=>simp
   |some blk=>rw[hnb b blk hl];simp
  ·refine hK _ _ ⟨pu',ow',m1,fun j s hj hLj hjs=>?_,fun s hno=>?_,hb.trans (m4.mono hb.size),fun g hg=>?_,fun j b hj hLj hbj=>?_,fun b hbb=>?_,by rw[qcH];exact hs,by rw[qbK];exact hd.1,hd.2.step m2 fun b=>?_⟩
   ·by_cases hji:j=i
    ·subst hji
     rw[hod]at hjs hdst
     rw[hjs]at hdst ⊢
     simp only[qai,decide_eq_true_eq]at hdst
     rw[qfL (by rw[hs];exact hdst),if_pos rfl]
     exact m3
    ·simp only[if_neg hji]at hLj
     have:=(c1 j s hj hLj hjs).mono m2
     cases hdd:o.dst with
     |none=>exact this
     |some t=>
      rw[hod,hdd]at hdst
      simp only[qai,decide_eq_true_eq]at hdst
      rw[qfL (by rw[hs];exact hdst),if_neg]
      ·exact this
      ·rintro rfl
       exact hca.dst j s hj hji hjs hdd
   ·have:=(c2 s hno).mono m2
    cases hdd:o.dst with
    |none=>exact this
    |some t=>
     rw[hod,hdd]at hdst
     simp only[qai,decide_eq_true_eq]at hdst
     rw[qfL (by rw[hs];exact hdst),if_neg]
     ·exact this
     ·rintro rfl
      exact hno i hi (by rw[hod,hdd])
   ·rcases m5 g hg with h|h
    ·exact hz g h
    ·exact .inr (Nat.le_trans hb.size h)
   ·by_cases hji:j=i
    ·subst hji;simp at hLj
    ·simp only[if_neg hji]at hLj
     rw[m6 b (hdj j hj hji b hbj)]
     exact hp1 j b hj hLj hbj
   ·rw[m6 b (hbig b hbb)]
    exact hp2 b hbb
   ·cases hl:lkH (nb i) b with
    |none=>exact .inr (m6 b hl)
    |some blk=>exact .inl (hp1 i b hi hL (by rw[hl];rfl))
 unfold wpOp
 simp only[List.getElem?_toArray,ho]
 unfold Ran at hran
 cases hg:o.guard with
 |none=>
  rw[hg]at hran
  rw[if_pos (by simp[Region.wanted,hg])]
  exact .inl (run hran)
 |some jw=>
  obtain⟨j,want⟩:=jw
  rw[hg]at hran
  simp only at hran
  obtain⟨r,hgd,hran⟩:=hran
  have hgd':qdG all E' j=some r:=by
   rw[←hgd]
   refine qnT fun s hs=>?_
   simp only[E',qfP]
   rw[if_pos]
   simp only[List.mem_append]
   right
   simp[gsl,hg,hs]
  have hy:=qhx he hgd'
  by_cases hr:r=some want
  ·rw[if_pos hr]at hran
   rw[if_pos (by simp[Region.wanted,hg,hy,hr])]
   exact .inl (run hran)
  ·rw[if_neg hr]at hran
   rw[if_neg (by simpa[Region.wanted,hg,hy]using hr)]
   exact skip hran.1 hran.2
end
def cnt:Nat→(Nat→Bool)→Nat
 |0,_=>0
 |n+1,L=>cnt n L+if L n then 0 else 1
theorem qgj:∀{n:Nat} {L:Nat→Bool},cnt n L=0→∀i,i<n→L i=true
 |0,_,_,i,hi=>by omega
 |n+1,L,h,i,hi=>by
  simp only[cnt]at h
  by_cases hL:L n=true
  ·rw[if_pos hL]at h
   rcases Nat.lt_succ_iff_lt_or_eq.1 hi with h'|rfl
   ·exact qgj (by omega) i h'
   ·exact hL
  ·rw[if_neg hL]at h;omega
theorem qqE:∀{n:Nat} {L L':Nat→Bool},(∀i,i<n→L i=L' i)→cnt n L=cnt n L'
 |0,_,_,_=>rfl
 |n+1,L,L',h=>by simp only[cnt];rw[qqE fun i hi=>h i (by omega),h n (by omega)]
theorem qfQ:∀{n i:Nat} {L L':Nat→Bool},i<n→L i=false→L' i=true→(∀j,j≠i→L' j=L j)→cnt n L'+1=cnt n L
 |0,i,_,_,h,_,_,_=>by omega
 |n+1,i,L,L',hi,h1,h2,h3=>by
  simp only[cnt]
  by_cases he:i=n
  ·subst he
   rw[h1,h2,qqE (L:=L') (L':=L) fun j hj=>h3 j (by omega)]
   simp
  ·have:=qfQ (n:=n) (by omega) h1 h2 h3
   rw[h3 n (by omega)]
   omega
section
variable {P:Program}{w w0:World}{S:Frm}{all:List Oper}{m id0 n:Nat}{a:Act}{Q:Exit→Act→World→Prop}
def qdg(all:List Oper)(L:Nat→Bool):Prop:=∀i o e,L i=true→all[i]? =some o→e∈o.after→Region.binds .any e=true→L e.on=true
theorem qdg.tb{L:Nat→Bool}(hc:qdg all L){i j:Nat}(h:TB all j i):L i=true→L j=true:=by
 induction h with
 |step i o e ho he hb=>exact fun hi=>hc i o e hi ho he hb
 |more i j o e ho he hb _ ih=>exact fun hi=>ih (hc i o e hi ho he hb)
theorem qhz{L:Nat→Bool}(hc:qdg all L){i j:Nat}{o:Oper}(ho:all[i]? =some o)(hr:∀e∈o.after,Region.binds .any e=true→L e.on=true)(h:TB all j i):L j=true:=by
 cases h with
 |step i o' e ho' he hb=>rw[ho]at ho';injection ho' with ho';subst ho';exact hr e he hb
 |more i j o' e ho' he hb h=>rw[ho]at ho';injection ho' with ho';subst ho';exact hc.tb h (hr e he hb)
theorem qcD{listed:Array Bool}{i:Nat}:i∈Region.ready .any all.toArray listed↔i<all.length∧listed.getD i true=false∧∃o,all[i]? =some o∧∀e∈o.after,Region.binds .any e=true→listed.getD e.on false=true:=by
 unfold Region.ready
 simp only[List.mem_filter,List.mem_range,Bool.and_eq_true,Bool.not_eq_true',List.getElem?_toArray,List.size_toArray]
 constructor
 ·rintro⟨h1,h2,h3⟩
  refine⟨h1,h2,all[i],List.getElem?_eq_getElem h1,fun e he hb=>?_⟩
  rw[List.getElem?_eq_getElem h1]at h3
  simp only[Option.map_some,Option.getD_some]at h3
  have:=(Array.all_eq_true'.1 h3) e he
  rw[hb]at this
  simpa using this
 ·rintro⟨h1,h2,o,ho,h3⟩
  refine⟨h1,h2,?_⟩
  rw[ho]
  simp only[Option.map_some,Option.getD_some]
  refine Array.all_eq_true'.2 fun e he=>?_
  cases hb:Region.binds .any e with
  |false=>rfl
  |true=>rw[h3 e he hb];rfl
theorem qeE{listed:Array Bool}{i:Nat}(hi:i<listed.size):listed.getD i true=listed.getD i false:=by
 simp[Array.getD_eq_getD_getElem?,hi]
theorem qas{listed:Array Bool}{i j:Nat}(hi:i<listed.size):(listed.setIfInBounds i true).getD j false=if j=i then true else listed.getD j false:=by
 simp only[Array.getD_eq_getD_getElem?,Array.getElem?_setIfInBounds]
 by_cases h:i=j
 ·subst h;simp[hi]
 ·rw[if_neg h,if_neg (Ne.symm h)]
theorem qeP{listed:Array Bool}(hs:listed.size=all.length)(hb:qeg all 0=true)(hr:Region.ready .any all.toArray listed=[]):∀i,i<all.length→listed.getD i false=true:=by
 intro i
 induction i using Nat.strongRecOn with
 |ind i ih=>
  intro hi
  cases hl:listed.getD i false with
  |true=>rfl
  |false=>
   have:i∈Region.ready .any all.toArray listed:=qcD.2 ⟨hi,by rw[qeE (by omega)];exact hl,all[i],List.getElem?_eq_getElem hi,fun e he hbe=>by
    have hlt:=qbU hb (List.getElem?_eq_getElem hi) he hbe
    exact ih e.on (by omega) (by omega)⟩
   rw[hr]at this
   simp at this
theorem qmy(hb:qeg all 0=true)(hl:qmw all m=true):∀(rest:List Oper) (k fuel:Nat) (listed:Array Bool) (a:Act) (w:World),all.drop k=rest→m≤k→k≤all.length→listed.size=all.length→
  (∀i,i<k→listed.getD i false=true)→(∀i,k≤i→i<all.length→listed.getD i false=false)→rest.length≤fuel→wpList P all.toArray Q rest a w→wpAny P .any all.toArray Q fuel listed a w:=by
 intro rest
 induction rest with
 |nil=>
  intro k fuel listed a w hd hm hk hs h1 h2 hf h
  have hkl:all.length≤k:=by
   have:=congrArg List.length hd
   simp at this
   omega
  have hr:Region.ready .any all.toArray listed=[]:=List.eq_nil_iff_forall_not_mem.2 fun i hi=>by
   obtain⟨h3,h4,_⟩:=qcD.1 hi
   rw[qeE (by omega),h1 i (by omega)]at h4
   cases h4
  cases fuel with
  |zero=>exact⟨hr,h⟩
  |succ fuel=>exact⟨fun _=>h,fun i hi=>by rw[hr]at hi;simp at hi⟩
 |cons o rest ih=>
  intro k fuel listed a w hd hm hk hs h1 h2 hf h
  cases fuel with
  |zero=>simp at hf
  |succ fuel=>
   have hklt:k<all.length:=by
    have:=congrArg List.length hd
    simp at this
    omega
   rw[List.drop_eq_getElem_cons hklt]at hd
   injection hd with hd1 hd2
   have hok:all[k]? =some o:=by rw[List.getElem?_eq_getElem hklt,hd1]
   refine⟨fun hr=>?_,fun i hi=>?_⟩
   ·have:=qeP hs hb hr k hklt
    rw[h2 k (Nat.le_refl _) hklt]at this
    cases this
   ·obtain⟨h3,h4,o',ho',h5⟩:=qcD.1 hi
    rw[qeE (by omega)]at h4
    have hik:i=k:=by
     rcases Nat.lt_trichotomy i k with h|h|h
     ·rw[h1 i h]at h4;cases h4
     ·exact h
     ·have htb:=qiZ hl (k:=i) (j:=k) (by omega) h3 h
      have:listed.getD k false=true:=by
       cases htb with
       |step _ o2 e ho2 he hbe=>rw[ho']at ho2;injection ho2 with ho2;subst ho2;exact h5 e he hbe
       |more _ _ o2 e ho2 he hbe h6=>
        rw[ho']at ho2;injection ho2 with ho2;subst ho2
        have h7:=h5 e he hbe
        have h8:=qbU hb ho' he hbe
        rcases Nat.lt_or_ge e.on k with h9|h9
        ·exfalso
         have:∀{a b:Nat},TB all a b→a<b:=by
          intro a b hab
          induction hab with
          |step i o e ho he hbe=>have:=qbU hb ho he hbe;omega
          |more i j o e ho he hbe _ ih=>have:=qbU hb ho he hbe;omega
         have:=this h6
         omega
        ·rw[h2 e.on h9 (by omega)]at h7;cases h7
      rw[h2 k (Nat.le_refl _) hklt]at this
      cases this
    subst hik
    rw[hok]at ho'
    injection ho' with ho';subst ho'
    have next:∀a w,wpList P all.toArray Q rest a w→wpAny P .any all.toArray Q fuel (listed.setIfInBounds i true) a w:=fun a w h=>
     ih (i+1) fuel _ a w hd2 (by omega) (by omega) (by simpa using hs) (fun j hj=>by rw[qas (by omega)];split;rfl;exact h1 j (by omega))
      (fun j hj hj'=>by rw[qas (by omega),if_neg (by omega)];exact h2 j (by omega) hj') (by simp at hf;omega) h
    unfold wpList at h
    unfold wpOp
    simp only[List.getElem?_toArray,hok]
    split at h
    ·rename_i hw
     rw[if_pos hw]
     exact h.imp (Oper.wp_mono next) id
    ·rename_i hw
     rw[if_neg hw]
     exact next _ _ h
theorem qfe{hp0:Hp}{nb:Nat→Hp}{b:Nat}:∀{i:Nat},(lkH (qcY hp0 nb i) b).isSome→(lkH hp0 b).isSome∨∃j,j<i∧(lkH (nb j) b).isSome
 |0,h=>.inl h
 |i+1,h=>by
  simp only[qcY,qaO]at h
  cases hn:lkH (nb i) b with
  |some blk=>exact .inr ⟨i,by omega,by rw[hn];rfl⟩
  |none=>
   rw[hn]at h
   rcases qfe (i:=i) (by simpa using h)with h|⟨j,hj,h⟩
   ·exact .inl h
   ·exact .inr ⟨j,by omega,h⟩
theorem qdz:∀{hp:Hp} {b:Nat},(lkH hp b).isSome→∃x∈hp,x.1=b
 |[],b,h=>by simp[lkH]at h
 |(k,d)::hp,b,h=>by
  simp only[lkH]at h
  split at h
  ·rename_i hb;exact⟨(k,d),by simp,hb.symm⟩
  ·obtain⟨x,hx,h⟩:=qdz h
   exact⟨x,by simp[hx],h⟩
theorem Mem.addPends{pu:Nat→Prop}{ow:Nat→Ow}{base:Nat}{hp hq:Nat→Option Blk}(hm:Mem base w pu ow hp)(h1:∀b blk,hp b=some blk→hq b=some blk)
  (h2:∀b blk,hq b=some blk→hp b=Option.none→ow b=.pending∧(blk.flat=true→qal blk.rows=true)):Mem base w pu ow hq:=by
 refine⟨fun b blk hb=>?_,fun b hb=>?_,hm.injO,hm.ownO,hm.zone⟩
 ·cases hpb:hp b with
  |some blk'=>
   have:=h1 b blk' hpb
   rw[hb]at this
   injection this with this;subst this
   exact hm.blk b _ hpb
  |none=>
   obtain⟨h3,h4⟩:=h2 b blk hb hpb
   rw[h3]
   exact⟨h4,trivial⟩
 ·cases hpb:hp b with
  |some blk'=>rw[h1 b blk' hpb]at hb;cases hb
  |none=>exact hm.none b hpb
def qy1(P:Program)(all:List Oper)(m:Nat)(st:St)(K:X→St→Prop):Prop:=
 (st.hp.all fun x=>decide (x.1<st.nx))=true∧
 qaK P all (all.take m) st.nx st (qfA fun st'=>qaK P all (all.drop m) st'.nx st' K)
theorem qtY{st:St}{K:X→St→Prop}(hNA:S.free∨∀o∈all,qfb o.op=true)(hc:qfN all m=true)(hi:qbT w0 S st.nx st a w)(h:qy1 P all m st K):wpAny P .any all.toArray (qii w0 S K) all.length (Array.replicate all.length false) a w:=by
 unfold qfN at hc
 simp only[Bool.and_eq_true,decide_eq_true_eq,List.all_eq_true,List.mem_range]at hc
 obtain⟨⟨⟨hm,hback⟩,hline⟩,hA⟩:=hc
 have hA':∀i,i<m→∃o,all[i]? =some o∧ChkA all m i o:=fun i hi=>qj8 (hA i hi)
 obtain⟨hdom,h⟩:=h
 simp only[List.all_eq_true,decide_eq_true_eq]at hdom
 have hkind:∀i o,i<m→all[i]? =some o→qgY o.op=true:=fun i o hi ho=>by
  obtain⟨o',ho',hc⟩:=hA' i hi
  rw[ho]at ho';injection ho' with ho';subst ho'
  exact hc.kind
 obtain⟨dv,nb,htr,hK⟩:=qfd (P:=P) (all:=all) (qgc:=st.env) (hp0:=st.hp) (id0:=st.nx) (m:=m) (K:=fun _ st'=>qaK P all (all.drop m) st'.nx st' K) hm hkind m 0 (fun _=>.undef) (fun _=>[]) st (by omega) rfl rfl rfl
  (fun j o hj=>by omega) (fun j hj=>by omega) (by simpa using h)
 simp only at hK
 have hrange:∀j b,j<m→(lkH (nb j) b).isSome→st.nx+32*j≤b∧b<st.nx+32*j+32:=fun j b hj hb=>by
  obtain⟨o,ho,_⟩:=hA' j hj
  exact qj7 (htr.ran j o hj ho) hb
 have hhp0:∀b,(lkH st.hp b).isSome→b<st.nx:=fun b hb=>by
  obtain⟨x,hx,rfl⟩:=qdz hb
  exact hdom x hx
 have hlt:∀i b,i≤m→(lkH (qcY st.hp nb i) b).isSome→b<st.nx+32*i:=fun i b hi hb=>by
  rcases qfe hb with h|⟨j,hj,h⟩
  ·have:=hhp0 b h;omega
  ·have:=hrange j b (by omega) h;omega
 have hsub1:∀i,i<m→Sub (lkH (qcY st.hp nb i)) (lkH (qcY st.hp nb (i+1))):=fun i hi b blk hb=>by
  have h1:=hlt i b (by omega) (by rw[hb];rfl)
  simp only[qcY,qaO]
  cases hn:lkH (nb i) b with
  |some blk'=>
   have:=hrange i b hi (by rw[hn];rfl)
   omega
  |none=>simpa using hb
 have hsub:∀d i,i+d=m→Sub (lkH (qcY st.hp nb i)) (lkH (qcY st.hp nb m)):=by
  intro d
  induction d with
  |zero=>intro i hi;rw[show i=m by omega];exact fun b blk h=>h
  |succ d ih=>intro i hi b blk hb;exact ih (i+1) (by omega) b blk (hsub1 i (by omega) b blk hb)
 have hnbA:∀i,i<m→∀b blk,lkH (nb i) b=some blk→lkH (qcY st.hp nb m) b=some blk:=fun i hi b blk hb=>
  hsub (m-(i+1)) (i+1) (by omega) b blk (by simp only[qcY,qaO,hb];rfl)
 have hflat:∀i,i<m→∀b blk,lkH (nb i) b=some blk→blk.flat=true→qal blk.rows=true:=fun i hi b blk hb=>by
  obtain⟨o,ho,_⟩:=hA' i hi
  rcases qhy (htr.ran i o hi ho)with h|h
  ·exact qmx h hb
  ·rw[h]at hb;cases hb
 have hran:∀i o,i<m→all[i]? =some o→Ran P all o (st.nx+32*i) (qch all st.env dv i) (lkH (qcY st.hp nb m)) (dv i) (nb i):=fun i o hi ho=>by
  have:=htr.ran i o hi ho
  unfold Ran at this ⊢
  have hmono:= @qjw P (qab (qch all st.env dv i)) (qab (qch all st.env dv i)) _ _ (st.nx+32*i) o.op (dv i) (nb i) (hsub (m-i) i (by omega)) (fun _ _=>rfl)
  split at this
  ·exact hmono this
  ·obtain⟨r,h1,h2⟩:=this
   refine⟨r,h1,?_⟩
   split at h2
   ·rename_i hr;rw[if_pos hr];exact hmono h2
   ·rename_i hr;rw[if_neg hr];exact h2
 have hdisj:∀i,i<m→∀j,j<m→j≠i→∀b,(lkH (nb j) b).isSome→lkH (nb i) b=none:=fun i hi j hj hji b hb=>by
  cases hn:lkH (nb i) b with
  |none=>rfl
  |some blk=>
   have h1:=hrange i b hi (by rw[hn];rfl)
   have h2:=hrange j b hj hb
   omega
 have hbig:∀i,i<m→∀b,st.nx+32*m≤b→lkH (nb i) b=none:=fun i hi b hb=>by
  cases hn:lkH (nb i) b with
  |none=>rfl
  |some blk=>have h1:=hrange i b hi (by rw[hn];rfl);omega
 have uniq:∀j k s,j<m→k<m→k≠j→qaL all j=some s→qaL all k≠some s:=by
  intro j k s hj hk hkj hjs hks
  obtain⟨oj,hoj,hcj⟩:=hA' j hj
  exact hcj.dst k s hk hkj hks (by simpa[qaL,hoj]using hjs)
 have hG0:G w0 S all m st.nx st.n dv nb st.env (lkH (qcY st.hp nb m)) (fun _=>false) a w:=by
  obtain⟨pu,ow,m1,m2,m3,m4,m5,m6,m7⟩:=hi
  refine⟨pu,ow,m1.addPends (fun b blk hb=>hsub m 0 (by omega) b blk hb) (fun b blk hb hb0=>?_),(fun j s _ h=>Bool.noConfusion h),fun s _=>m2 s,m3,m4,fun j b hj _ hb=>m5 b ?_,fun b hb=>m5 b (by omega),m6,m7⟩
  ·rcases qfe (by rw[hb];rfl:(lkH (qcY st.hp nb m) b).isSome)with h|⟨j,hj,h⟩
   ·rw[hb0]at h;cases h
   ·have h1:=hrange j b hj h
    obtain⟨blk',hb'⟩:=Option.isSome_iff_exists.1 h
    have:=hnbA j hj b blk' hb'
    rw[hb]at this
    injection this with this;subst this
    exact⟨m5 b (by omega),hflat j hj b blk hb'⟩
  ·have h1:=hrange j b hj hb;omega
 have finish:∀(fuel:Nat) (listed:Array Bool) (a:Act) (w:World),listed.size=all.length→cnt all.length (fun i=>listed.getD i false)≤fuel→(∀i,i<m→listed.getD i false=true)→
   (∀i,m≤i→i<all.length→listed.getD i false=false)→G w0 S all m st.nx st.n dv nb st.env (lkH (qcY st.hp nb m)) (fun i=>listed.getD i false) a w→wpAny P .any all.toArray (qii w0 S K) fuel listed a w:=by
  intro fuel listed a w hs hcnt hall hB ⟨pu,ow,g1,g2,g3,g4,g5,g6,g7,g8,g9⟩
  refine qmy hback hline (all.drop m) m fuel listed a w rfl (Nat.le_refl _) hm hs hall hB ?_ (qgh (all.drop m) _ ⟨qch all st.env dv m,qcY st.hp nb m,st.nx+32*m,st.n⟩ a w (hNA.imp (fun h=>h) fun h o ho=>h o (List.mem_of_mem_drop ho)) ⟨pu,ow,g1,fun s=>?_,g4,g5,fun b hb=>g7 b hb,g8,g9⟩ hK)
  ·have:∀d,m+d≤all.length→d≤cnt (m+d) (fun i=>listed.getD i false):=by
    intro d
    induction d with
    |zero=>intro _;omega
    |succ d ih=>
     intro hd
     have:=ih (by omega)
     have hstep:cnt (m+(d+1)) (fun i=>listed.getD i false)=cnt (m+d) (fun i=>listed.getD i false)+1:=by
      show cnt (m+d) _+(if listed.getD (m+d) false=true then 0 else 1)=_
      rw[hB (m+d) (by omega) (by omega)]
      rfl
     omega
   have h1:=this (all.length-m) (by omega)
   rw[show m+(all.length-m)=all.length by omega]at h1
   simp
   omega
  ·by_cases hex:∃j,j<m∧qaL all j=some s
   ·obtain⟨j,hj,hjs⟩:=hex
    simp only
    rw[qfO hjs hj fun k hk hkj=>uniq j k s hj hk hkj hjs]
    exact g2 j s hj (hall j hj) hjs
   ·have hno:∀j,j<m→qaL all j≠some s:=fun j hj h=>hex ⟨j,hj,h⟩
    simp only
    rw[qcN hno]
    exact g3 s hno
 suffices H:∀(fuel:Nat) (listed:Array Bool) (a:Act) (w:World),listed.size=all.length→cnt all.length (fun i=>listed.getD i false)≤fuel→qdg all (fun i=>listed.getD i false)→
   (∀i,m≤i→i<all.length→listed.getD i false=false)→G w0 S all m st.nx st.n dv nb st.env (lkH (qcY st.hp nb m)) (fun i=>listed.getD i false) a w→wpAny P .any all.toArray (qii w0 S K) fuel listed a w by
  refine H _ _ a w (by simp) ?_ ?_ ?_ ?_
  ·have:∀n (L:Nat→Bool),cnt n L≤n:=by
    intro n L
    induction n with
    |zero=>simp[cnt]
    |succ n ih=>simp only[cnt];split<;>omega
   exact this _ _
  ·intro i o e h
   simp only[Array.getD_eq_getD_getElem?,Array.getElem?_replicate]at h
   split at h<;>cases h
  ·intro i _ _
   simp only[Array.getD_eq_getD_getElem?,Array.getElem?_replicate]
   split<;>rfl
  ·have:(fun i=>(Array.replicate all.length false).getD i false)=fun _=>false:=by
    funext i
    simp only[Array.getD_eq_getD_getElem?,Array.getElem?_replicate]
    split<;>rfl
   rw[this]
   exact hG0
 intro fuel
 induction fuel with
 |zero=>
  intro listed a w hs hcnt hcl hB hG
  exact finish 0 listed a w hs hcnt (fun i hi=>qgj (n:=all.length) (L:=fun i=>listed.getD i false) (by omega) i (by omega)) hB hG
 |succ fuel ih=>
  intro listed a w hs hcnt hcl hB hG
  by_cases hall:∀i,i<m→listed.getD i false=true
  ·exact finish _ listed a w hs hcnt hall hB hG
  ·refine⟨fun hr=>(hall fun i hi=>qeP hs hback hr i (by omega)).elim,fun i hi=>?_⟩
   obtain⟨h1,h2,o,ho,h3⟩:=qcD.1 hi
   rw[qeE (by omega)]at h2
   have him:i<m:=by
    rcases Nat.lt_or_ge i m with h|h
    ·exact h
    ·exact(hall fun j hj=>qhz hcl ho h3 (qiZ hline h h1 (by omega))).elim
   refine qtX (qgc:=st.env) (hp:=lkH (qcY st.hp nb m)) (L:=fun i=>listed.getD i false) hG ho hA' him h2 (fun j hb=>?_) (fun s hno _=>(qcN fun j hj=>hno j (by omega)).symm) (hran i o him ho) (hnbA i him) (hdisj i him) (hbig i him) (htr.dst i him) fun a' w' hG'=>?_
   ·obtain⟨e,he,hbe,rfl⟩:=qdI hb
    exact⟨h3 e he hbe,by have:=qbU hback ho he hbe;omega⟩
   ·have hset:(fun j=>(listed.setIfInBounds i true).getD j false)=fun j=>if j=i then true else listed.getD j false:=funext fun j=>qas (by omega)
    refine ih _ a' w' (by simpa using hs) ?_ ?_ ?_ ?_
    ·have:=qfQ (n:=all.length) (L:=fun j=>listed.getD j false) (L':=fun j=>(listed.setIfInBounds i true).getD j false) h1 h2 (by simp only[qas (listed:=listed) (i:=i) (by omega:i<listed.size),if_pos]) (fun j hj=>by simp only[qas (listed:=listed) (i:=i) (by omega:i<listed.size),if_neg hj])
     omega
    ·intro j oj e hj hoj he hbe
     rw[hset]at hj ⊢
     simp only at hj ⊢
     split
     ·rfl
     ·split at hj
      ·rename_i hji
       subst hji
       rw[ho]at hoj
       injection hoj with hoj;subst hoj
       exact h3 e he hbe
      ·exact hcl j oj e hj hoj he hbe
    ·intro j hj hj'
     rw[qas (by omega),if_neg (by omega)]
     exact hB j hj hj'
    ·rw[hset]
     exact hG'
end
def qtZ(st:St):X→St→Prop:=fun x st'=>x=.normal∧st'.hp=st.hp∧st'.n=st.n∧∀s,lkE st'.env s=lkE st.env s
def qpy(P:Program)(all:List Oper)(st:St)(j:Nat):Prop:=
 match all[j]? with
 |some o=>∀id,qan P o.op id o.dst st (qtZ st)
 |none=>False
def qbG(P:Program)(all:List Oper)(st:St):List Nat→Prop
 |[]=>True
 |j::l=>qpy P all st j∧qbG P all st l
def qcr(P:Program)(all:List Oper)(m:Nat):List Oper→List (List Nat)→Nat→St→(X→St→Prop)→Prop
 |[],[],id,st,K=>K .normal {st with nx:=id}
 |o::rest,z::zs,id,st,K=>qan P o.op id o.dst st (qfA fun st'=>qbG P all st' z∧qcr P all m rest zs (id+32+32*m) st' K)
 |_,_,_,_,_=>False
def qt0(P:Program)(all:List Oper)(m:Nat)(zs:List (List Nat))(st:St)(K:X→St→Prop):Prop:=
 (st.hp.all fun x=>decide (x.1<st.nx))=true∧
 qaK P all (all.take m) st.nx st (qfA fun st'=>qcr P all m (all.drop m) zs st'.nx st' K)
def qpz(all:List Oper)(m:Nat)(o:Oper)(j:Nat):Bool:=
 decide (j<m)&&match all[j]? with
 |some oj=>oj.guard.isNone&&(match oj.dst with
  |some s=> !(qbY o.op).contains s&&o.dst !=some s
  |none=>true)&&(match o.dst with
  |some t=> !(qbY oj.op).contains t
  |none=>true)
 |none=>false
def qt1(l:List Nat):Nat:=l.foldl (fun s j=>s|||2^j) 0
def qcg(all:List Oper)(m:Nat)(ms:List Nat):Nat→List Oper→List (List Nat)→Bool
 |_,[],[]=>true
 |k,o::rest,z::zs=>(ms.getD k 0|||qt1 z==2^k-1)&&o.guard.isNone&&z.all (qpz all m o)&&qcg all m ms (k+1) rest zs
 |_,_,_=>false
def qdA(all:List Oper)(m:Nat)(zs:List (List Nat)):Bool:=decide (m≤all.length)&&qeg all 0&&qcg all m (qjm all []) m (all.drop m) zs&&(List.range m).all (qDO all m)
theorem qqF:∀{l:List Nat} {s j:Nat},(l.foldl (fun s j=>s|||2^j) s).testBit j=true→s.testBit j=true∨j∈l
 |[],s,j,h=>.inl h
 |i::l,s,j,h=>by
  rw[List.foldl_cons]at h
  rcases qqF h with h|h
  ·simp only[Nat.testBit_or,Bool.or_eq_true,Nat.testBit_two_pow]at h
   rcases h with h|h
   ·exact .inl h
   ·exact .inr (by simp only[decide_eq_true_eq]at h;subst h;exact List.mem_cons_self)
  ·exact .inr (List.mem_cons_of_mem _ h)
section
variable {P:Program}{w w0:World}{S:Frm}{all:List Oper}{m id0 n:Nat}{a:Act}{Q:Exit→Act→World→Prop}
theorem qgk{ms:List Nat}{k j:Nat}{z:List Nat}(hms:∀i j,(ms.getD i 0).testBit j=true→TB all j i)(h:(ms.getD k 0|||qt1 z==2^k-1)=true)(hj:j<k):TB all j k∨j∈z:=by
 have h1:(ms.getD k 0|||qt1 z).testBit j=true:=by
  rw[beq_iff_eq.1 h]
  simp[Nat.testBit_two_pow_sub_one,hj]
 simp only[Nat.testBit_or,Bool.or_eq_true]at h1
 rcases h1 with h1|h1
 ·exact .inl (hms k j h1)
 ·rcases qqF h1 with h2|h2
  ·simp at h2
  ·exact .inr h2
theorem qjx(all:List Oper):∀i j,((qjm all []).getD i 0).testBit j=true→TB all j i:=fun i j h=>qir all [] (by simp) (fun i j h=>by simp at h) i j h
theorem qis{b:Nat}:∀{env:Env} {s:Nat},lkE (qft b env) s=pd b (lkE env s)
 |[],s=>rfl
 |(t,d)::env,s=>by
  show(if s=t then pd b d else lkE (qft b env) s)=_
  simp only[lkE]
  split
  ·rfl
  ·exact qis
theorem qj9{o:Op}{hp:Nat→Option Blk}{ρ ρ':Operand→D}(h:∀x∈o.operands,ρ x=ρ' x){bs:List Bool}(hb:qlg P ρ hp o=some bs):qlg P ρ' hp o=some bs:=by
 unfold qlg at hb
 split at hb
 ·rename_i op t x t'
  have hx:=h x (by simp[Op.operands])
  show qDN P hp op t (ρ' x)=some bs
  rw[←hx]
  exact hb
 ·cases hb
theorem qsk{ρ ρ':Operand→D}{hp:Nat→Option Blk}{o:Op}(h:∀x∈o.operands,ρ x=ρ' x):qlg P ρ hp o=qlg P ρ' hp o:=by
 cases h1:qlg P ρ hp o with
 |some bs=>exact(qj9 h h1).symm
 |none=>
  cases h2:qlg P ρ' hp o with
  |some bs=>rw[qj9 (fun x hx=>(h x hx).symm) h2]at h1;cases h1
  |none=>rfl
theorem qgl{A:Nat→Prop}{E E2:Env}{hp:Hp}{nx:Nat}{K:X→St→Prop}{o:Op}{id:Nat}{dst:Option Tmp}(hA:∀s,A s→lkE E2 s=lkE E s)(ho:∀s∈qbY o,A s)(h:qan P o id dst ⟨E,hp,nx,n⟩ K):
  qan P o id dst ⟨E2,hp,nx,n⟩ fun x st2=>∃E',K x ⟨E',st2.hp,st2.nx,st2.n⟩∧(x=.normal→∀s,(A s∨dst=some s)→lkE st2.env s=lkE E' s):=by
 have hρ:∀x∈o.operands,qab E x=qab E2 x:=by
  intro x hx
  cases x with
  |tmp t=>exact(hA t (ho t (List.mem_filterMap.2 ⟨.tmp t,by simpa using hx,rfl⟩))).symm
  |_=>rfl
 have step:∀{d:D} {F F2:Env} {hp':Hp},(∀s,A s→lkE F2 s=lkE F s)→qcp ⟨E,hp,nx,n⟩ dst d F hp' K→
   qcp ⟨E2,hp,nx,n⟩ dst d F2 hp' fun x st2=>∃E',K x ⟨E',st2.hp,st2.nx,st2.n⟩∧(x=.normal→∀s,(A s∨dst=some s)→lkE st2.env s=lkE E' s):=by
  intro d F F2 hp' hF ⟨h1,h2⟩
  refine⟨h1,qdF dst d F,h2,fun _ s hs=>?_⟩
  simp only[qgi]
  split
  ·rfl
  ·rename_i hne
   rcases hs with hs|hs
   ·exact hF s hs
   ·exact(hne hs).elim
 unfold qan at h ⊢
 split at h
 ·rename_i op t x y
  have hx:=hρ x (by simp[Op.operands])
  have hy:=hρ y (by simp[Op.operands])
  dsimp only at h ⊢
  rw[←hx,←hy]
  split at h
  ·exact step hA h
  ·exact h.elim
 ·rename_i f args ts
  have hf:=hρ f (by simp[Op.operands,Call.operands])
  have hargs:args.toList.map (qab E)=args.toList.map (qab E2):=qmv fun x hx=>hρ x (by simp[Op.operands,Call.operands,hx])
  dsimp only at h ⊢
  rw[←hf,←hargs]
  unfold qfv at h ⊢
  split at h
  ·obtain⟨args',out,h1,h2,h3,h4⟩:=h
   refine⟨args',out,h1,h2,h3,?_⟩
   cases out with
   |ret r=>exact⟨h4.1,step hA h4.2⟩
   |pan d=>exact⟨E,h4,fun hx=>by cases hx⟩
  ·exact h.elim
 ·rename_i args ts
  dsimp only at h ⊢
  split at h
  ·rename_i s x t t' hargs hts
   have hs:=hρ s (by simp[Op.operands,Call.operands];rw[←Array.mem_toList_iff,hargs];simp)
   have hx:=hρ x (by simp[Op.operands,Call.operands];rw[←Array.mem_toList_iff,hargs];simp)
   rw[←hs,←hx]
   split at h
   ·rename_i htt
    rw[if_pos htt]
    split at h
    ·exact step hA h
    ·exact step (fun s hs=>by rw[qis,qis,hA s hs]) h
    ·exact h.elim
   ·exact h.elim
  ·exact h.elim
 ·rename_i t parts
  dsimp only at h ⊢
  rw[←qj5 (ρ:=qab E) (ρ':=qab E2) fun x hx=>hρ x (by simpa[Op.operands]using hx)]
  split at h
  ·rename_i h1;simp only[h1];exact step hA h
  ·exact h.elim
 ·dsimp only at h ⊢
  rw[←qnR (P:=P) (hp:=lkH hp) hρ,←qnS (P:=P) hρ]
  rw[←qsk (P:=P) (hp:=lkH hp) hρ]
  split at h
  ·exact step hA h
  ·split at h
   ·exact step hA h
   ·split at h
    ·exact fun b hb=>step hA (h b hb)
    ·unfold qpx at h ⊢
     split at h
     ·obtain⟨t,d,h1,h2,h3⟩:=h
      exact⟨t,d,(hρ _ (by simp[Op.operands])).symm.trans h1,h2,E,h3,fun hx=>by cases hx⟩
     ·exact h.elim
theorem qfR{st:St}:∀{z:List Nat},qbG P all st z→∀j∈z,qpy P all st j
 |[],_,j,hj=>by simp at hj
 |i::z,h,j,hj=>by
  rcases List.mem_cons.1 hj with rfl|hj
  ·exact h.1
  ·exact qfR h.2 j hj
theorem qbT.up{id id':Nat}{st:St}{a:Act}(hi:qbT w0 S id st a w)(h:id≤id'):qbT w0 S id' st a w:=by
 obtain⟨pu,ow,m1,m2,m3,m4,m5,m6,m7⟩:=hi
 exact⟨pu,ow,m1,m2,m3,m4,fun b hb=>m5 b (by omega),m6,m7⟩
theorem qbT.look{id:Nat}{st st':St}{a:Act}(hi:qbT w0 S id st a w)(h1:∀s,lkE st'.env s=lkE st.env s)(h2:st'.hp=st.hp)(h3:st'.n=st.n):qbT w0 S id st' a w:=by
 obtain⟨pu,ow,m1,m2,m3,m4,m5,m6,m7⟩:=hi
 exact⟨pu,ow,by rw[h2];exact m1,fun s=>by rw[h1];exact m2 s,m3,m4,m5,by rw[h3];exact m6,m7⟩
theorem qt2:∀(n:Nat) (L:Nat→Bool),cnt n L≤n
 |0,_=>Nat.le_refl _
 |n+1,L=>by have:=qt2 n L;simp only[cnt];split<;>omega
theorem qcV{o:Oper}{j:Nat}(h:qpz all m o j=true):j<m∧∃oj,all[j]? =some oj∧oj.guard=none∧(∀s,oj.dst=some s→s∉qbY o.op∧o.dst≠some s)∧∀t,o.dst=some t→t∉qbY oj.op:=by
 unfold qpz at h
 simp only[Bool.and_eq_true,decide_eq_true_eq]at h
 obtain⟨h1,h2⟩:=h
 split at h2
 ·rename_i oj ho
  simp only[Bool.and_eq_true]at h2
  obtain⟨⟨h3,h4⟩,h5⟩:=h2
  refine⟨h1,oj,ho,by simpa using h3,fun s hs=>?_,fun t ht=>?_⟩
  ·rw[hs]at h4
   simpa using h4
  ·rw[ht]at h5
   simpa using h5
 ·cases h2
def qCa(P:Program)(w0:World)(S:Frm)(all:List Oper)(m:Nat)(K:X→St→Prop)(fuel:Nat):Prop:=∀(k:Nat) (rest:List Oper) (zs:List (List Nat)) (z:List Nat) (listed:Array Bool) (st:St) (id idc:Nat) (E2:Env) (a:Act) (w:World),
  all.drop k=rest→m≤k→k≤all.length→listed.size=all.length→qcg all m (qjm all []) k rest zs=true→(∀i,m≤i→i<k→listed.getD i false=true)→(∀i,k≤i→i<all.length→listed.getD i false=false)→
  (∀i,i<m→listed.getD i false=false→i∈z)→(∀j∈z,∃o,all[j]? =some o∧o.guard=none)→qdg all (fun i=>listed.getD i false)→cnt all.length (fun i=>listed.getD i false)≤fuel→
  qbG P all st z→qcr P all m rest zs id st K→qbT w0 S idc ⟨E2,st.hp,st.nx,st.n⟩ a w→idc+32*cnt m (fun i=>listed.getD i false)≤id→
  (∀s,(∀j,j<m→listed.getD j false=false→qaL all j≠some s)→lkE E2 s=lkE st.env s)→wpAny P .any all.toArray (qii w0 S K) fuel listed a w
theorem qnU(hNA:S.free∨∀o∈all,qfb o.op=true)(hback:qeg all 0=true)(hm:m≤all.length){K:X→St→Prop}{fuel:Nat}(ih:qCa P w0 S all m K fuel)(k:Nat)(rest:List Oper)(zs:List (List Nat))(listed:Array Bool)(st:St)(id idc:Nat)(E2:Env)(a:Act)(w:World)
  (hd:all.drop k=rest) (hmk:m≤k) (hs:listed.size=all.length) (hchk:qcg all m (qjm all []) k rest zs=true) (h1:∀i,m≤i→i<k→listed.getD i false=true) (h2:∀i,k≤i→i<all.length→listed.getD i false=false)
  (hcl:qdg all (fun i=>listed.getD i false)) (h:qcr P all m rest zs id st K) (hi:qbT w0 S idc ⟨E2,st.hp,st.nx,st.n⟩ a w) (hidc:idc≤id)
  (hE:∀s,(∀j,j<m→listed.getD j false=false→qaL all j≠some s)→lkE E2 s=lkE st.env s) (i:Nat) (him:¬i<m) (h3:i<all.length) (h4:listed.getD i false=false) (o:Oper) (ho:all[i]? =some o)
  (h5:∀e∈o.after,Region.binds .any e=true→listed.getD e.on false=true) (hclosed:qdg all (fun j=>(listed.setIfInBounds i true).getD j false)) (hcnt':cnt all.length (fun j=>(listed.setIfInBounds i true).getD j false)≤fuel):
  wpOp P all.toArray (qii w0 S K) i (fun a w=>wpAny P .any all.toArray (qii w0 S K) fuel (listed.setIfInBounds i true) a w) a w:=by
 cases rest with
 |nil=>
  have:=congrArg List.length hd
  simp at this
  have:=h1 i (by omega) (by omega)
  rw[h4]at this
  cases this
 |cons ok rest=>
  cases zs with
  |nil=>exact h.elim
  |cons zk zs=>
   have hklt:k<all.length:=by
    have:=congrArg List.length hd
    simp at this
    omega
   rw[List.drop_eq_getElem_cons hklt]at hd
   injection hd with hd1 hd2
   have hok:all[k]? =some ok:=by rw[List.getElem?_eq_getElem hklt,hd1]
   simp only[qcg,Bool.and_eq_true,List.all_eq_true]at hchk
   obtain⟨⟨⟨c1,c2⟩,c3⟩,c4⟩:=hchk
   have hik:i=k:=by
    rcases Nat.lt_trichotomy i k with hlt|hlt|hlt
    ·have:=h1 i (by omega) hlt;rw[h4]at this;cases this
    ·exact hlt
    ·exfalso
     have bound:∀(rest:List Oper) (zs:List (List Nat)) (k0:Nat),all.drop k0=rest→qcg all m (qjm all []) k0 rest zs=true→k0≤i→∀j,m≤j→j<i→TB all j i:=by
      intro rest
      induction rest with
      |nil=>intro zs k0 hd _ hk0 j _ _;have:=congrArg List.length hd;simp at this;omega
      |cons o1 rest ihr=>
       intro zs k0 hd hc hk0 j hj hji
       cases zs with
       |nil=>simp[qcg]at hc
       |cons z1 zs=>
        simp only[qcg,Bool.and_eq_true,List.all_eq_true]at hc
        obtain⟨⟨⟨e1,_⟩,e3⟩,e4⟩:=hc
        have hlt0:k0<all.length:=by
         have:=congrArg List.length hd
         simp at this
         omega
        rw[List.drop_eq_getElem_cons hlt0]at hd
        injection hd with _ hd2
        by_cases hki:k0=i
        ·subst hki
         rcases qgk (qjx all) e1 hji with h|h
         ·exact h
         ·have:=(qcV (e3 j h)).1;omega
        ·exact ihr zs (k0+1) hd2 e4 (by omega) j hj hji
     have htb:=bound rest zs (k+1) hd2 c4 (by omega) k hmk hlt
     have:=qhz hcl ho h5 htb
     rw[h2 k (Nat.le_refl _) hklt]at this
     cases this
   subst hik
   rw[hok]at ho
   injection ho with ho;subst ho
   have hpend:∀j,j<m→listed.getD j false=false→j∈zk:=fun j hj hlj=>by
    rcases qgk (qjx all) c1 (by omega:j<i)with h|h
    ·have:=qhz hcl hok h5 h;rw[hlj]at this;cases this
    ·exact h
   let A:Nat→Prop:=fun s=>∀j,j<m→listed.getD j false=false→qaL all j≠some s
   have hops:∀s∈qbY ok.op,A s:=fun s hsl j hj hlj hjs=>by
    obtain⟨_,oj,hoj,_,h7,_⟩:=qcV (c3 j (hpend j hj hlj))
    exact(h7 s (by simpa[qaL,hoj]using hjs)).1 hsl
   simp only[qcr]at h
   have hrun:=qgl (A:=A) (E:=st.env) (E2:=E2) (hp:=st.hp) (nx:=st.nx) (n:=st.n) (fun s hs=>hE s hs) hops h
   unfold wpOp
   simp only[List.getElem?_toArray,hok]
   have hg:ok.guard=none:=by simpa using c2
   rw[if_pos (by simp[Region.wanted,hg])]
   refine .inl (qgX (hNA.imp (fun h=>h) fun h=>h ok (List.mem_of_getElem? hok)) (hi.up (by omega:idc≤id)) hrun (fun st2 a' w' hK hi'=>?_) fun d chain w' hK _=>?_)
   ·obtain⟨E',⟨k1,k2⟩,k5⟩:=hK
    have hst2:∀s,(∀j,j<m→(listed.setIfInBounds i true).getD j false=false→qaL all j≠some s)→lkE st2.env s=lkE E' s:=fun s hs=>by
     refine k5 rfl s (.inl fun j hj hlj hjs=>hs j hj ?_ hjs)
     rw[qas (by omega),if_neg (by omega)];exact hlj
    have hcm:=qt2 m (fun j=>(listed.setIfInBounds i true).getD j false)
    refine ih (i+1) rest zs zk _ ⟨E',st2.hp,st2.nx,st2.n⟩ (id+32+32*m) (id+32) st2.env a' w' hd2 (by omega) (by omega) (by simpa using hs) c4 (fun j hj hjk=>?_) (fun j hj hjl=>?_) (fun j hj hlj=>?_) (fun j hj=>?_) hclosed hcnt' k1 k2 hi' (by omega) hst2
    ·rw[qas (by omega)];split;rfl;exact h1 j hj (by omega)
    ·rw[qas (by omega),if_neg (by omega)];exact h2 j (by omega) hjl
    ·rw[qas (by omega),if_neg (by omega)]at hlj
     exact hpend j hj hlj
    ·obtain⟨_,oj,hoj,hg,_⟩:=qcV (c3 j hj)
     exact⟨oj,hoj,hg⟩
   ·obtain⟨E',hx,_⟩:=hK
    exact hx.elim
theorem qt3(hNA:S.free∨∀o∈all,qfb o.op=true)(hback:qeg all 0=true)(hA':∀i,i<m→∃o,all[i]? =some o∧ChkA all m i o)(hm:m≤all.length){K:X→St→Prop}:∀(fuel:Nat),qCa P w0 S all m K fuel:=by
 intro fuel
 have atEnd:∀(k:Nat) (rest:List Oper) (zs:List (List Nat)) (listed:Array Bool) (st:St) (id idc:Nat) (E2:Env) (a:Act) (w:World),all.drop k=rest→m≤k→k≤all.length→(∀i,k≤i→i<all.length→listed.getD i false=false)→
   (∀i,i<all.length→listed.getD i false=true)→qcr P all m rest zs id st K→qbT w0 S idc ⟨E2,st.hp,st.nx,st.n⟩ a w→idc+32*cnt m (fun i=>listed.getD i false)≤id→
   (∀s,(∀j,j<m→listed.getD j false=false→qaL all j≠some s)→lkE E2 s=lkE st.env s)→qii w0 S K .normal a w:=by
  intro k rest zs listed st id idc E2 a w hd hmk hk h2 hall h hi hidc hE
  have hkl:k=all.length:=by
   rcases Nat.lt_or_ge k all.length with hlt|hge
   ·have:=h2 k (Nat.le_refl _) hlt;rw[hall k hlt]at this;cases this
   ·omega
  have hr:rest=[]:=by rw[←hd,hkl];simp
  subst hr
  cases zs with
  |nil=>
   refine⟨{st with nx:=id},h,qbT.look (qbT.up hi (show idc≤id by omega)) (fun s=>?_) rfl rfl⟩
   exact(hE s fun j hj hlj=>by rw[hall j (by omega)]at hlj;cases hlj).symm
  |cons _ _=>exact h.elim
 induction fuel with
 |zero=>
  intro k rest zs z listed st id idc E2 a w hd hmk hk hs hchk h1 h2 hU hz hcl hcnt hag h hi hidc hE
  have hall:∀i,i<all.length→listed.getD i false=true:=fun i hi=>qgj (n:=all.length) (L:=fun i=>listed.getD i false) (by omega) i hi
  refine⟨List.eq_nil_iff_forall_not_mem.2 fun i hi=>?_,atEnd k rest zs listed st id idc E2 a w hd hmk hk h2 hall h hi hidc hE⟩
  obtain⟨h3,h4,_⟩:=qcD.1 hi
  rw[qeE (by omega),hall i h3]at h4
  cases h4
 |succ fuel ih=>
  intro k rest zs z listed st id idc E2 a w hd hmk hk hs hchk h1 h2 hU hz hcl hcnt hag h hi hidc hE
  refine⟨fun hr=>atEnd k rest zs listed st id idc E2 a w hd hmk hk h2 (qeP hs hback hr) h hi hidc hE,fun i hir=>?_⟩
  obtain⟨h3,h4,o,ho,h5⟩:=qcD.1 hir
  rw[qeE (by omega)]at h4
  have hclosed:qdg all (fun j=>(listed.setIfInBounds i true).getD j false):=by
   intro j oj e hj hoj he hbe
   simp only[qas (listed:=listed) (i:=i) (by omega:i<listed.size)]at hj ⊢
   split
   ·rfl
   ·split at hj
    ·rename_i hji
     subst hji
     rw[ho]at hoj
     injection hoj with hoj;subst hoj
     exact h5 e he hbe
    ·exact hcl j oj e hj hoj he hbe
  have hcnt':cnt all.length (fun j=>(listed.setIfInBounds i true).getD j false)≤fuel:=by
   have:=qfQ (n:=all.length) (L:=fun j=>listed.getD j false) (L':=fun j=>(listed.setIfInBounds i true).getD j false) h3 h4 (by simp only[qas (listed:=listed) (i:=i) (by omega:i<listed.size),if_pos]) (fun j hj=>by simp only[qas (listed:=listed) (i:=i) (by omega:i<listed.size),if_neg hj])
   omega
  have uniq:∀j k s,j<m→k<m→k≠j→qaL all j=some s→qaL all k≠some s:=by
   intro j k s hj hk hkj hjs hks
   obtain⟨oj,hoj,hcj⟩:=hA' j hj
   exact hcj.dst k s hk hkj hks (by simpa[qaL,hoj]using hjs)
  by_cases him:i<m
  ·
   have hiz:=hU i him h4
   have hagi:=qfR hag i hiz
   obtain⟨o',ho',hg⟩:=hz i hiz
   rw[ho]at ho';injection ho' with ho';subst ho'
   unfold qpy at hagi
   rw[ho]at hagi
   simp only at hagi
   obtain⟨o',ho',hca⟩:=hA' i him
   rw[ho]at ho';injection ho' with ho';subst ho'
   have hod:qaL all i=o.dst:=by simp[qaL,ho]
   let A:Nat→Prop:=fun s=>∀j,j<m→listed.getD j false=false→qaL all j≠some s
   have hops:∀s∈qbY o.op,A s:=fun s hsl j hj hlj hjs=>by
    obtain⟨e,he,hbe,hej⟩:=qdI (hca.slot j s hj hjs hsl)
    have:=h5 e he hbe
    rw[hej,hlj]at this
    cases this
   have hrun:=qgl (A:=A) (E:=st.env) (E2:=E2) (hp:=st.hp) (nx:=st.nx) (n:=st.n) (fun s hs=>hE s hs) hops (hagi idc)
   unfold wpOp
   simp only[List.getElem?_toArray,ho]
   rw[if_pos (by simp[Region.wanted,hg])]
   refine .inl (qgX (hNA.imp (fun h=>h) fun h=>h o (List.mem_of_getElem? ho)) hi hrun (fun st2 a' w' hK hi'=>?_) fun d chain w' hK _=>?_)
   ·obtain⟨E',⟨_,k2,k3,k4⟩,k5⟩:=hK
    have hst2:∀s,(∀j,j<m→(listed.setIfInBounds i true).getD j false=false→qaL all j≠some s)→lkE st2.env s=lkE st.env s:=fun s hs=>by
     have hA:A s∨o.dst=some s:=by
      by_cases hds:o.dst=some s
      ·exact .inr hds
      ·left
       intro j hj hlj hjs
       by_cases hji:j=i
       ·subst hji;exact hds (hod▸hjs)
       ·exact hs j hj (by rw[qas (by omega),if_neg hji];exact hlj) hjs
     rw[k5 rfl s hA]
     exact k4 s
    have hc2:cnt m (fun j=>(listed.setIfInBounds i true).getD j false)+1=cnt m (fun j=>listed.getD j false):=qfQ (n:=m) him h4 (by simp only[qas (listed:=listed) (i:=i) (by omega:i<listed.size),if_pos]) (fun j hj=>by simp only[qas (listed:=listed) (i:=i) (by omega:i<listed.size),if_neg hj])
    refine ih k rest zs z _ st id (idc+32) st2.env a' w' hd hmk hk (by simpa using hs) hchk (fun j hj hjk=>?_) (fun j hj hjl=>?_) (fun j hj hlj=>?_) hz hclosed hcnt' hag h (qbT.look hi' (fun s=>rfl) k2.symm k3.symm) (by omega) hst2
    ·rw[qas (by omega)];split;rfl;exact h1 j hj hjk
    ·rw[qas (by omega),if_neg (by omega)];exact h2 j hj hjl
    ·rw[qas (by omega)]at hlj
     split at hlj
     ·cases hlj
     ·exact hU j hj hlj
   ·obtain⟨E',⟨hx,_⟩,_⟩:=hK
    cases hx
  ·exact qnU hNA hback hm ih k rest zs listed st id idc E2 a w hd hmk hs hchk h1 h2 hcl h hi (by omega) hE i him h3 h4 o ho h5 hclosed hcnt'
theorem qsl(hNA:S.free∨∀o∈all,qfb o.op=true){st:St}{K:X→St→Prop}{zs:List (List Nat)}(hc:qdA all m zs=true)(hi:qbT w0 S st.nx st a w)(h:qt0 P all m zs st K):wpAny P .any all.toArray (qii w0 S K) all.length (Array.replicate all.length false) a w:=by
 unfold qdA at hc
 simp only[Bool.and_eq_true,decide_eq_true_eq,List.all_eq_true,List.mem_range]at hc
 obtain⟨⟨⟨hm,hback⟩,hline⟩,hA⟩:=hc
 have hA':∀i,i<m→∃o,all[i]? =some o∧ChkA all m i o:=fun i hi=>qj8 (hA i hi)
 obtain⟨hdom,h⟩:=h
 simp only[List.all_eq_true,decide_eq_true_eq]at hdom
 have hkind:∀i o,i<m→all[i]? =some o→qgY o.op=true:=fun i o hi ho=>by
  obtain⟨o',ho',hc⟩:=hA' i hi
  rw[ho]at ho';injection ho' with ho';subst ho'
  exact hc.kind
 obtain⟨dv,nb,htr,hK⟩:=qfd (P:=P) (all:=all) (qgc:=st.env) (hp0:=st.hp) (id0:=st.nx) (m:=m) (K:=fun _ st'=>qcr P all m (all.drop m) zs st'.nx st' K) hm hkind m 0 (fun _=>.undef) (fun _=>[]) st (by omega) rfl rfl rfl
  (fun j o hj=>by omega) (fun j hj=>by omega) (by simpa using h)
 simp only at hK
 have hrange:∀j b,j<m→(lkH (nb j) b).isSome→st.nx+32*j≤b∧b<st.nx+32*j+32:=fun j b hj hb=>by
  obtain⟨o,ho,_⟩:=hA' j hj
  exact qj7 (htr.ran j o hj ho) hb
 have hhp0:∀b,(lkH st.hp b).isSome→b<st.nx:=fun b hb=>by
  obtain⟨x,hx,rfl⟩:=qdz hb
  exact hdom x hx
 have hlt:∀i b,i≤m→(lkH (qcY st.hp nb i) b).isSome→b<st.nx+32*i:=fun i b hi hb=>by
  rcases qfe hb with h|⟨j,hj,h⟩
  ·have:=hhp0 b h;omega
  ·have:=hrange j b (by omega) h;omega
 have hsub1:∀i,i<m→Sub (lkH (qcY st.hp nb i)) (lkH (qcY st.hp nb (i+1))):=fun i hi b blk hb=>by
  have h1:=hlt i b (by omega) (by rw[hb];rfl)
  simp only[qcY,qaO]
  cases hn:lkH (nb i) b with
  |some blk'=>
   have:=hrange i b hi (by rw[hn];rfl)
   omega
  |none=>simpa using hb
 have hsub:∀d i,i+d=m→Sub (lkH (qcY st.hp nb i)) (lkH (qcY st.hp nb m)):=by
  intro d
  induction d with
  |zero=>intro i hi;rw[show i=m by omega];exact fun b blk h=>h
  |succ d ih=>intro i hi b blk hb;exact ih (i+1) (by omega) b blk (hsub1 i (by omega) b blk hb)
 have hnbA:∀i,i<m→∀b blk,lkH (nb i) b=some blk→lkH (qcY st.hp nb m) b=some blk:=fun i hi b blk hb=>
  hsub (m-(i+1)) (i+1) (by omega) b blk (by simp only[qcY,qaO,hb];rfl)
 have hflat:∀i,i<m→∀b blk,lkH (nb i) b=some blk→blk.flat=true→qal blk.rows=true:=fun i hi b blk hb=>by
  obtain⟨o,ho,_⟩:=hA' i hi
  rcases qhy (htr.ran i o hi ho)with h|h
  ·exact qmx h hb
  ·rw[h]at hb;cases hb
 have hran:∀i o,i<m→all[i]? =some o→Ran P all o (st.nx+32*i) (qch all st.env dv i) (lkH (qcY st.hp nb m)) (dv i) (nb i):=fun i o hi ho=>by
  have:=htr.ran i o hi ho
  unfold Ran at this ⊢
  have hmono:= @qjw P (qab (qch all st.env dv i)) (qab (qch all st.env dv i)) _ _ (st.nx+32*i) o.op (dv i) (nb i) (hsub (m-i) i (by omega)) (fun _ _=>rfl)
  split at this
  ·exact hmono this
  ·obtain⟨r,h1,h2⟩:=this
   refine⟨r,h1,?_⟩
   split at h2
   ·rename_i hr;rw[if_pos hr];exact hmono h2
   ·rename_i hr;rw[if_neg hr];exact h2
 have hdisj:∀i,i<m→∀j,j<m→j≠i→∀b,(lkH (nb j) b).isSome→lkH (nb i) b=none:=fun i hi j hj hji b hb=>by
  cases hn:lkH (nb i) b with
  |none=>rfl
  |some blk=>
   have h1:=hrange i b hi (by rw[hn];rfl)
   have h2:=hrange j b hj hb
   omega
 have hbig:∀i,i<m→∀b,st.nx+32*m≤b→lkH (nb i) b=none:=fun i hi b hb=>by
  cases hn:lkH (nb i) b with
  |none=>rfl
  |some blk=>have h1:=hrange i b hi (by rw[hn];rfl);omega
 have uniq:∀j k s,j<m→k<m→k≠j→qaL all j=some s→qaL all k≠some s:=by
  intro j k s hj hk hkj hjs hks
  obtain⟨oj,hoj,hcj⟩:=hA' j hj
  exact hcj.dst k s hk hkj hks (by simpa[qaL,hoj]using hjs)
 have hG0:G w0 S all m st.nx st.n dv nb st.env (lkH (qcY st.hp nb m)) (fun _=>false) a w:=by
  obtain⟨pu,ow,m1,m2,m3,m4,m5,m6,m7⟩:=hi
  refine⟨pu,ow,m1.addPends (fun b blk hb=>hsub m 0 (by omega) b blk hb) (fun b blk hb hb0=>?_),(fun j s _ h=>Bool.noConfusion h),fun s _=>m2 s,m3,m4,fun j b hj _ hb=>m5 b ?_,fun b hb=>m5 b (by omega),m6,m7⟩
  ·rcases qfe (by rw[hb];rfl:(lkH (qcY st.hp nb m) b).isSome)with h|⟨j,hj,h⟩
   ·rw[hb0]at h;cases h
   ·have h1:=hrange j b hj h
    obtain⟨blk',hb'⟩:=Option.isSome_iff_exists.1 h
    have:=hnbA j hj b blk' hb'
    rw[hb]at this
    injection this with this;subst this
    exact⟨m5 b (by omega),hflat j hj b blk hb'⟩
  ·have h1:=hrange j b hj hb;omega
 have stateOf:∀(listed:Array Bool) (a:Act) (w:World),G w0 S all m st.nx st.n dv nb st.env (lkH (qcY st.hp nb m)) (fun i=>listed.getD i false) a w→
   ∃E2,qbT w0 S (st.nx+32*m) ⟨E2,qcY st.hp nb m,st.nx+32*m,st.n⟩ a w∧∀s,(∀j,j<m→listed.getD j false=false→qaL all j≠some s)→lkE E2 s=lkE (qch all st.env dv m) s:=by
  intro listed a w ⟨pu,ow,g1,g2,g3,g4,g5,g6,g7,g8,g9⟩
  let un:List Nat:=(List.range m).filterMap fun j=>if listed.getD j false=false then qaL all j else none
  have hun:∀s,s∈un↔∃j,j<m∧listed.getD j false=false∧qaL all j=some s:=by
   intro s
   simp only[un,List.mem_filterMap,List.mem_range]
   constructor
   ·rintro⟨j,hj,h⟩
    split at h
    ·rename_i hl;exact⟨j,hj,hl,h⟩
    ·cases h
   ·rintro⟨j,hj,hl,h⟩
    exact⟨j,hj,by rw[if_pos hl];exact h⟩
  have hlk:∀(l:List Nat) (E:Env) (s:Nat),lkE (l.map (fun s=>(s,D.undef))++E) s=if s∈l then .undef else lkE E s:=by
   intro l
   induction l with
   |nil=>intro E s;simp
   |cons t l ih=>
    intro E s
    simp only[List.map_cons,List.cons_append,lkE,List.mem_cons]
    by_cases h:s=t
    ·simp[h]
    ·rw[if_neg h,ih];simp[h]
  refine⟨un.map (fun s=>(s,D.undef))++qch all st.env dv m,⟨pu,ow,g1,fun s=>?_,g4,g5,g7,g8,g9⟩,fun s hs=>?_⟩
  ·simp only[hlk]
   split
   ·exact .pure _ _ (.undef _)
   ·rename_i hsu
    by_cases hex:∃j,j<m∧qaL all j=some s
    ·obtain⟨j,hj,hjs⟩:=hex
     rw[qfO hjs hj fun k hk hkj=>uniq j k s hj hk hkj hjs]
     refine g2 j s hj ?_ hjs
     cases hl:listed.getD j false with
     |true=>exact hl
     |false=>exact(hsu ((hun s).2 ⟨j,hj,hl,hjs⟩)).elim
    ·have hno:∀j,j<m→qaL all j≠some s:=fun j hj h=>hex ⟨j,hj,h⟩
     rw[qcN hno]
     exact g3 s hno
  ·rw[hlk,if_neg]
   intro hsu
   obtain⟨j,hj,hl,hjs⟩:=(hun s).1 hsu
   exact hs j hj hl hjs
 have finish:∀(fuel:Nat) (listed:Array Bool) (a:Act) (w:World),listed.size=all.length→cnt all.length (fun i=>listed.getD i false)≤fuel→qdg all (fun i=>listed.getD i false)→(∀i,i<m→listed.getD i false=true)→
   (∀i,m≤i→i<all.length→listed.getD i false=false)→G w0 S all m st.nx st.n dv nb st.env (lkH (qcY st.hp nb m)) (fun i=>listed.getD i false) a w→wpAny P .any all.toArray (qii w0 S K) fuel listed a w:=by
  intro fuel listed a w hs hcnt hcl hall hB hG
  obtain⟨E2,hi2,hE⟩:=stateOf listed a w hG
  have hz:∀n,(∀i,i<n→listed.getD i false=true)→cnt n (fun i=>listed.getD i false)=0:=by
   intro n
   induction n with
   |zero=>intro _;rfl
   |succ n ih=>intro h;simp only[cnt];rw[ih fun i hi=>h i (by omega),if_pos (h n (by omega))]
  exact qt3 hNA hback hA' hm fuel m (all.drop m) zs [] listed _ _ _ E2 a w rfl (Nat.le_refl _) hm hs hline (fun j hj hj'=>by omega) hB (fun j hj hl=>by rw[hall j hj]at hl;cases hl) (fun j hj=>by simp at hj) hcl hcnt trivial hK hi2 (by rw[hz m hall];exact Nat.le_refl _) hE
 suffices H:∀(fuel:Nat) (listed:Array Bool) (a:Act) (w:World),listed.size=all.length→cnt all.length (fun i=>listed.getD i false)≤fuel→qdg all (fun i=>listed.getD i false)→
   (∀i,m≤i→i<all.length→listed.getD i false=false)→G w0 S all m st.nx st.n dv nb st.env (lkH (qcY st.hp nb m)) (fun i=>listed.getD i false) a w→wpAny P .any all.toArray (qii w0 S K) fuel listed a w by
  refine H _ _ a w (by simp) ?_ ?_ ?_ ?_
  ·have:∀n (L:Nat→Bool),cnt n L≤n:=by
    intro n L
    induction n with
    |zero=>simp[cnt]
    |succ n ih=>simp only[cnt];split<;>omega
   exact this _ _
  ·intro i o e h
   simp only[Array.getD_eq_getD_getElem?,Array.getElem?_replicate]at h
   split at h<;>cases h
  ·intro i _ _
   simp only[Array.getD_eq_getD_getElem?,Array.getElem?_replicate]
   split<;>rfl
  ·have:(fun i=>(Array.replicate all.length false).getD i false)=fun _=>false:=by
    funext i
    simp only[Array.getD_eq_getD_getElem?,Array.getElem?_replicate]
    split<;>rfl
   rw[this]
   exact hG0
 intro fuel
 induction fuel with
 |zero=>
  intro listed a w hs hcnt hcl hB hG
  exact finish 0 listed a w hs hcnt hcl (fun i hi=>qgj (n:=all.length) (L:=fun i=>listed.getD i false) (by omega) i (by omega)) hB hG
 |succ fuel ih=>
  intro listed a w hs hcnt hcl hB hG
  by_cases hall:∀i,i<m→listed.getD i false=true
  ·exact finish _ listed a w hs hcnt hcl hall hB hG
  ·refine⟨fun hr=>(hall fun i hi=>qeP hs hback hr i (by omega)).elim,fun i hi=>?_⟩
   obtain⟨h1,h2,o,ho,h3⟩:=qcD.1 hi
   rw[qeE (by omega)]at h2
   have hclosed:qdg all (fun j=>(listed.setIfInBounds i true).getD j false):=by
    intro j oj e hj hoj he hbe
    simp only[qas (listed:=listed) (i:=i) (by omega:i<listed.size)]at hj ⊢
    split
    ·rfl
    ·split at hj
     ·rename_i hji
      subst hji
      rw[ho]at hoj
      injection hoj with hoj;subst hoj
      exact h3 e he hbe
     ·exact hcl j oj e hj hoj he hbe
   have hcnt':cnt all.length (fun j=>(listed.setIfInBounds i true).getD j false)≤fuel:=by
    have:=qfQ (n:=all.length) (L:=fun j=>listed.getD j false) (L':=fun j=>(listed.setIfInBounds i true).getD j false) h1 h2 (by simp only[qas (listed:=listed) (i:=i) (by omega:i<listed.size),if_pos]) (fun j hj=>by simp only[qas (listed:=listed) (i:=i) (by omega:i<listed.size),if_neg hj])
    omega
   by_cases him:i<m
   ·refine qtX (qgc:=st.env) (hp:=lkH (qcY st.hp nb m)) (L:=fun i=>listed.getD i false) hG ho hA' him h2 (fun j hb=>?_) (fun s hno _=>(qcN fun j hj=>hno j (by omega)).symm) (hran i o him ho) (hnbA i him) (hdisj i him) (hbig i him) (htr.dst i him) fun a' w' hG'=>?_
    ·obtain⟨e,he,hbe,rfl⟩:=qdI hb
     exact⟨h3 e he hbe,by have:=qbU hback ho he hbe;omega⟩
    ·have hset:(fun j=>(listed.setIfInBounds i true).getD j false)=fun j=>if j=i then true else listed.getD j false:=funext fun j=>qas (by omega)
     refine ih _ a' w' (by simpa using hs) hcnt' hclosed ?_ ?_
     ·intro j hj hj'
      rw[qas (by omega),if_neg (by omega)]
      exact hB j hj hj'
     ·rw[hset]
      exact hG'
   ·obtain⟨E2,hi2,hE⟩:=stateOf listed a w hG
    exact qnU hNA hback hm (qt3 hNA hback hA' hm fuel) m (all.drop m) zs listed _ _ _ E2 a w rfl (Nat.le_refl _) hs hline (fun j hj hj'=>by omega) hB hcl hK hi2 (Nat.le_refl _) hE i him h1 h2 o ho h3 hclosed hcnt'
end
def owM(o:Ow):Nat→Ow:=fun b=>if b=0 then o else .pending
mutual
def qli:D→Bool
 |.agg cs=>qpA cs
 |.tup cs=>qpA cs
 |.clo _ xs ys=>qpA xs&&qpA ys
 |.sl _=>true
 |.ptr _=>true
 |.iface _ d=>qli d
 |d=>qaU d
def qpA:List D→Bool
 |[]=>true
 |d::ds=>qli d&&qpA ds
end
def inB(b:Nat):D→Option D
 |.os b' off len=>if b'=b then some (.os 0 off len)else none
 |d=>if qli d=true then some d else none
def inL(b:Nat):List D→Option (List D)
 |[]=>some []
 |d::ds=>match inB b d,inL b ds with
  |some d',some ds'=>some (d'::ds')
  |_,_=>none
def qnV(b:Nat):List D→Bool
 |[]=>false
 |.os b' _ _::ds=>b'==b||qnV b ds
 |_::ds=>qnV b ds
def qz1(b:Nat):D→D
 |.os _ off len=>.os b off len
 |d=>d
def qCb(b:Nat):D→D
 |.tup ds=>.tup (ds.map (qz1 b))
 |d=>qz1 b d
def okO:D→Bool
 |.os b _ _=>b==0
 |d=>qaU d
def qnW:D→Bool
 |.tup ds=>ds.all okO
 |d=>okO d
def qcE(P:Program)(f:FuncId)(ds:List D)(blk:Blk)(r:D)(blk':Blk):Prop:=
 qBQ P f∧qef blk'.rows=true∧qnW r=true∧∀(S:Nat→Prop) (w:World) (args:Array Value) (o:Ow),(∀g,S g→g<w.heap.size)→(o=.empty∨∃g a k sz,o=.lies g a k sz∧¬S g)→qbP w S (owM o) o blk→
  args.size=ds.length→(∀(i:Nat) (v:Value) (d:D),args[i]? =some v→ds[i]? =some d→Rep w S (owM o) v d)→
  Calls P f args w fun e w'=>(Below 0 w w'∧∀g,g<w.heap.size→(∀a k sz,o≠ .lies g a k sz)→w'.heap[g]? =w.heap[g]?)∧
   ∃v,e=.returned v∧qbP w' (fun _=>False) (owM o) o blk'∧Rep w' (fun _=>False) (owM o) v r
def qdN(P:Program)(o:Op)(dst:Option Tmp)(st:St)(K:X→St→Prop):Prop:=
 match o with
 |.call {callee:=.value f,args:=args,..}=>
  match qab st.env f with
  |.clo (.func g) xs ys=>∃b blk args' r blk',lkH st.hp b=some blk∧qef blk.rows=true∧inL b (xs++args.toList.map (qab st.env)++ys)=some args'∧qnV b (xs++args.toList.map (qab st.env)++ys)=true∧
    qcE P g args' blk r blk'∧qcp st dst (qCb b r) st.env (qjl b blk' st.hp) K
  |_=>False
 |_=>False
def hpX(hp:Hp)(b:Nat):Nat→Option Blk:=fun c=>if c=b then none else lkH hp c
mutual
def inX(hp:Hp)(b:Nat):D→Option D
 |.os b' off len=>if b'=b then some (.os 0 off len)else pur (hpX hp b) 64 (.os b' off len)
 |.op b' row off=>if b'=b then some (.op 0 row off)else pur (hpX hp b) 64 (.op b' row off)
 |.clo fn xs ys=>match qz2 hp b xs,qz2 hp b ys with
  |some xs',some ys'=>some (.clo fn xs' ys')
  |_,_=>none
 |d=>pur (hpX hp b) 64 d
def qz2(hp:Hp)(b:Nat):List D→Option (List D)
 |[]=>some []
 |d::ds=>match inX hp b d,qz2 hp b ds with
  |some d',some ds'=>some (d'::ds')
  |_,_=>none
end
mutual
def qtC(b:Nat):D→Bool
 |.os b' _ _=>b'==b
 |.op b' _ _=>b'==b
 |.clo _ xs ys=>qpB b xs||qpB b ys
 |_=>false
def qpB(b:Nat):List D→Bool
 |[]=>false
 |d::ds=>qtC b d||qpB b ds
end
def qeF(P:Program)(o:Op)(dst:Option Tmp)(st:St)(K:X→St→Prop):Prop:=
 match o with
 |.call {callee:=.value f,args:=args,..}=>
  match qab st.env f with
  |.clo (.func g) xs ys=>∃b blk args' r blk',lkH st.hp b=some blk∧qef blk.rows=true∧qz2 st.hp b (xs++args.toList.map (qab st.env)++ys)=some args'∧qpB b (xs++args.toList.map (qab st.env)++ys)=true∧
    qcE P g args' blk r blk'∧qcp st dst (qCb b r) st.env (qjl b blk' st.hp) K
  |_=>False
 |_=>False
def qz3(P:Program)(e:TypeId)(k:Nat):Bool:=match P.info? e with
 |some i=>match i.zero with
  |some z=>z.cells.size==k&&z.cells.all (·.oneCell')
  |none=>false
 |none=>false
def qit(P:Program)(o:Op)(dst:Option Tmp)(st:St)(K:X→St→Prop):Prop:=
 match o with
 |.call {callee:=.builtin .clear,args:=args,argTypes:=ts}=>
  ∃x t e b off len blk,args= #[x]∧ts= #[t]∧P.underlying t=some (.slice e)∧qz3 P e blk.k=true∧qab st.env x=.os b off len∧lkH st.hp b=some blk∧qef blk.rows=true∧off+len≤blk.rows.length∧
   qcp st dst (.tup []) st.env (qjl b ⟨blk.k,blk.flat,blk.rows.take off⟩ st.hp) K
 |_=>False
def qgH(P:Program)(o:Op)(dst:Option Tmp)(st:St)(K:X→St→Prop):Prop:=
 match o with
 |.call {callee:=.builtin .copy,args:=args,argTypes:=ts}=>∃x y t e b off len m blk new fl rows,args= #[x,y]∧ts= #[t,t]∧P.underlying t=some (.slice e)∧0<P.cellsOf e∧qab st.env x=.os b off len∧lkH st.hp b=some blk∧
   blk.k=P.cellsOf e∧off+len≤blk.rows.length∧min len new.length=m∧0<m∧qaR (lkH st.hp) (qab st.env y)=some new∧(∀r∈new,r.length=P.cellsOf e)∧(∀r∈new,∀c∈r,qgU c=true)∧
   rows=blk.rows.take off++new.take m++blk.rows.drop (off+m)∧(fl=true→qal rows=true)∧
   kOK (lkH st.hp) (P.cellsOf e) (qab st.env y)=true∧qcp st dst (.int .i64 m) st.env (qjl b ⟨blk.k,fl,rows⟩ st.hp) K
 |_=>False
def qsm(P:Program)(o:Op)(id:Nat)(dst:Option Tmp)(st:St)(K:X→St→Prop):Prop:=
 match o with
 |.makeMap _ none=>qcp st dst (.om id) st.env ((id,⟨0,true,[]⟩)::st.hp) K
 |.mapUpdate t m k v=>∃b rows k' kt et td,P.underlying t=some (.map kt et)∧P.underlying kt=some td∧qab st.env m=.om b∧lkH st.hp b=some ⟨k',true,rows⟩∧qsf td (qab st.env k)=true∧
   (qfF (qab st.env v)).isSome=true∧qbI td (qab st.env k) rows=some none∧qcp st dst .skip st.env (qjl b ⟨0,true,rows++[[qab st.env k,qab st.env v]]⟩ st.hp) K
 |_=>False
def qbL(P:Program)(all:List Oper):List Oper→Nat→St→(X→St→Prop)→Prop
 |[],id,st,K=>K .normal {st with nx:=id}
 |o::rest,id,st,K=>
  let k:=fun x st'=>match x with
   |.normal=>qbL P all rest (id+32) st' K
   |x=>K x st'
  (match o.guard with
  |none=>qan P o.op id o.dst st k
  |some (j,want)=>
   match qdG all st.env j with
   |some (some b)=>(b=want→qan P o.op id o.dst st k)∧(b=(!want)→qai st.n o.dst=true∧qbL P all rest (id+32) (st.put o.dst .skip) K)
   |some none=>qai st.n o.dst=true∧qbL P all rest (id+32) (st.put o.dst .skip) K
   |none=>False)∨(o.guard=none∧(qdN P o.op o.dst st k∨qit P o.op o.dst st k∨qsm P o.op id o.dst st k∨qeF P o.op o.dst st k∨qgH P o.op o.dst st k))
section
variable {P:Program}{w w' w0:World}{pu pu' Q:Nat→Prop}{S:Frm}{ow ow':Nat→Ow}{base:Nat}{hp:Hp}
theorem qfS:∀{ds:List D},qpA ds=true→∀(i:Nat) (d:D),ds[i]? =some d→qli d=true
 |[],_,i,d,h=>by simp at h
 |e::ds,hm,i,d,h=>by
  simp only[qpA,Bool.and_eq_true]at hm
  cases i with
  |zero=>simp at h;subst h;exact hm.1
  |succ i=>exact qfS hm.2 i d (by simpa using h)
theorem Rep.toP{v:Value}{d:D}(h:Rep w pu ow v d):qli d=true→RepP w pu v d:=by
 induction h with
 |pure v d h=>exact fun _=>h
 |agg vs cs hl _ ih=>exact fun hr=>.agg vs cs hl fun i v d h1 h2=>ih i v d h1 h2 (qfS (by simpa[qli]using hr) i d h2)
 |tup vs cs hl _ ih=>exact fun hr=>.tup vs cs hl fun i v d h1 h2=>ih i v d h1 h2 (qfS (by simpa[qli]using hr) i d h2)
 |clo fn xs ys cs ds hx _ hy _ ih ih'=>
  intro hr
  simp only[qli,Bool.and_eq_true]at hr
  exact .clo fn xs ys cs ds hx (fun i v d h1 h2=>ih i v d h1 h2 (qfS hr.1 i d h2)) hy fun i v d h1 h2=>ih' i v d h1 h2 (qfS hr.2 i d h2)
 |iface t v d _ ih=>exact fun hr=>.iface t v d (ih (by simpa[qli]using hr))
 |_=>intro hr;simp[qli,qaU]at hr
theorem qt4{b:Nat}:∀{ds ds':List D},inL b ds=some ds'→ds'.length=ds.length∧∀(i:Nat) (d':D),ds'[i]? =some d'→∃d,ds[i]? =some d∧inB b d=some d'
 |[],ds',h=>by simp[inL]at h;subst h;exact⟨rfl,fun i d h=>by simp at h⟩
 |d::ds,ds',h=>by
  simp only[inL]at h
  split at h
  ·rename_i e es h1 h2
   injection h with h;subst h
   obtain⟨h3,h4⟩:=qt4 h2
   refine⟨by simp[h3],fun i d' hi=>?_⟩
   cases i with
   |zero=>simp at hi;subst hi;exact⟨d,rfl,h1⟩
   |succ i=>obtain⟨x,hx,hy⟩:=h4 i d' (by simpa using hi);exact⟨x,by simpa using hx,hy⟩
  ·cases h
theorem qnX{b:Nat}:∀{ds:List D},qnV b ds=true→∃(i:Nat) (off len:Nat),ds[i]? =some (.os b off len)
 |[],h=>by cases h
 |d::ds,h=>by
  have hr:qnV b ds=true→∃(i:Nat) (off len:Nat),(d::ds)[i]? =some (.os b off len):=fun h=>by
   obtain⟨i,o,l,hi⟩:=qnX h
   exact⟨i+1,o,l,by simpa using hi⟩
  cases d with
  |os b' o l=>
   simp only[qnV,Bool.or_eq_true,beq_iff_eq]at h
   rcases h with h|h
   ·subst h;exact⟨0,o,l,rfl⟩
   ·exact hr h
  |_=>exact hr h
theorem qz4{b:Nat}{o:Ow}(ho:ow b=o)(hd:o≠ .dead){v:Value}{d d':D}(h:Rep w pu ow v d)(hi:inB b d=some d'):Rep w pu (owM o) v d':=by
 unfold inB at hi
 split at hi
 ·rename_i b' off len
  split at hi
  ·rename_i e;subst e
   injection hi with hi;subst hi
   cases h with
   |pure _ _ h=>cases h
   |osd a n c _ _ _ hb=>exact(hd (ho▸hb)).elim
   |ose a _ _ hb=>exact .ose a 0 off (by simp[owM,←ho,hb])
   |osa a cap _ _ _ g o' k sz hb hl hm=>exact .osa a cap 0 off len g o' k sz (by simp[owM,←ho,hb]) hl hm
  ·cases hi
 ·split at hi
  ·rename_i hf
   injection hi with hi;subst hi
   exact .pure _ _ (h.toP hf)
  ·cases hi
theorem qqG{b:Nat}{o:Ow}(ho:ow b=o){v:Value}{d:D}(h:Rep w Q (owM o) v d)(hk:okO d=true):Rep w pu ow v (qz1 b d):=by
 unfold okO at hk
 split at hk
 ·rename_i b' off len
  simp only[beq_iff_eq]at hk
  subst hk
  simp only[qz1]
  cases h with
  |pure _ _ h=>cases h
  |osd a n c _ _ _ hb=>exact .osd a n c b off len (by rw[ho];simpa[owM]using hb)
  |ose a _ _ hb=>exact .ose a b off (by rw[ho];simpa[owM]using hb)
  |osa a cap _ _ _ g o' k sz hb hl hm=>exact .osa a cap b off len g o' k sz (by rw[ho];simpa[owM]using hb) hl hm
 ·have:qz1 b d=d:=by cases d<;>first|rfl|cases hk
  rw[this]
  cases h with
  |pure _ _ h=>exact .pure _ _ (qca h hk)
  |_=>cases hk
theorem qqH{b:Nat}{o:Ow}(ho:ow b=o){v:Value}{r:D}(h:Rep w Q (owM o) v r)(hk:qnW r=true):Rep w pu ow v (qCb b r):=by
 unfold qnW at hk
 split at hk
 ·rename_i ds
  obtain⟨vs,rfl,h1,h2⟩:=h.tup_inv
  refine .tup vs (ds.map (qz1 b)) (by simp[h1]) fun i v d hv hd=>?_
  rw[List.getElem?_map]at hd
  obtain⟨e,he,rfl⟩:=Option.map_eq_some_iff.1 hd
  exact qqG ho (h2 i v e hv he) (List.all_eq_true.1 hk e (List.mem_of_getElem? he))
 ·rename_i hnt
  have:qCb b r=qz1 b r:=by
   cases r<;>first|rfl|exact(hnt _ rfl).elim
  rw[this]
  exact qqG ho h hk
theorem Mem.inplace(hm:Mem base w pu ow (lkH hp))(hbase:base≤w.heap.size){b:Nat}{blk blk':Blk}{o:Ow}(hb:lkH hp b=some blk)(ho:ow b=o)(hbw:Below 0 w w')
  (hh:∀g,g<w.heap.size→(∀a k sz,o≠ .lies g a k sz)→w'.heap[g]? =w.heap[g]?) (hk:qbP w' Q (owM o) o blk') (hs:qef blk'.rows=true):
  Mem base w' pu ow (lkH (qjl b blk' hp))∧Ext w pu ow w' pu ow∧Below base w w':=by
 have hoth:∀g,(∀a k sz,ow b≠ .lies g a k sz)→g<w.heap.size→w'.heap[g]? =w.heap[g]?:=fun g h1 h2=>hh g h2 (ho▸h1)
 have hext:Ext w pu ow w' pu ow:=⟨fun g hg=>⟨hg,hoth g (fun a k sz h=>(hm.own b g a k sz h).2 hg) (hm.zone g hg)⟩,fun _=>.inr (.inl rfl)⟩
 refine⟨⟨fun c blk2 hc=>?_,fun c hc=>?_,hm.injO,hm.ownO,fun g hg=>Nat.lt_of_lt_of_le (hm.zone g hg) hbw.size⟩,hext,⟨hbw.os,hbw.tape,hbw.output,hbw.size,fun g hg=>?_,hbw.drawn⟩⟩
 ·rw[qfc]at hc
  split at hc
  ·rename_i h
   obtain⟨rfl,_⟩:=h
   injection hc with hc;subst hc
   rw[ho]
   exact hk.rezone hs
  ·rename_i h
   have hcb:c≠b:=fun e=>h ⟨e,by rw[hc];rfl⟩
   exact(hm.blk c blk2 hc).mono hext fun g hat=>hoth g (fun a' k' sz' h'=>hcb (hm.injO c b _ hat (Ow.on_lies h'))) (hm.on_lt hat)
 ·rw[qfc]at hc
  split at hc
  ·cases hc
  ·exact hm.none c hc
 ·exact hoth g (fun a k sz h'=>by have:=(hm.own b g a k sz h').1;omega) (by omega)
theorem qlG{o:Oper}{id:Nat}{st:St}{a:Act}{K:X→St→Prop}{N:Act→World→Prop}{R:Exit→Act→World→Prop}
  (hi:qbT w0 S id st a w) (h:qdN P o.op o.dst st K) (hN:∀st' a' w',K .normal st'→qbT w0 S (id+32) st' a' w'→N a' w'):o.wp P a w N R:=by
 obtain⟨pu,ow,hm,he,hb,hz,hid,hs,hd⟩:=hi
 unfold qdN at h
 split at h
 ·rename_i op f args ts ho
  split at h
  ·rename_i g xs ys hfd
   obtain⟨b,blk,args',r,blk',hlk,hsc,hin,hos,hcon,hst⟩:=h
   have hf:=he.eval f
   rw[hfd]at hf
   obtain⟨vx,vy,hfv,hlx,hrx,hly,hry⟩:=hf.clo_inv
   unfold Oper.wp
   rw[qhw hcon.1 ho hfv,Oper.upon_enter]
   have hargs:∀(i:Nat) (v:Value) (d:D),(vx++args.map a.eval++vy)[i]? =some v→(xs++args.toList.map (qab st.env)++ys)[i]? =some d→Rep w pu ow v d:=by
    intro i v d h1 h2
    rw[Array.getElem?_append,Array.getElem?_append]at h1
    rw[List.getElem?_append,List.getElem?_append]at h2
    simp only[Array.size_append,Array.size_map,List.length_append,List.length_map,Array.length_toList,hlx]at h1 h2
    split at h1
    ·rename_i hlt
     rw[if_pos hlt]at h2
     split at h1
     ·rename_i hlt2
      rw[if_pos hlt2]at h2
      exact hrx i v d h1 h2
     ·rename_i hlt2
      rw[if_neg hlt2]at h2
      rw[Array.getElem?_map]at h1
      rw[List.getElem?_map,Array.getElem?_toList]at h2
      obtain⟨x,hx,rfl⟩:=Option.map_eq_some_iff.1 h1
      rw[hx]at h2
      injection h2 with h2;subst h2
      exact he.eval x
    ·rename_i hlt
     rw[if_neg hlt]at h2
     exact hry _ v d h1 h2
   have hlen:(vx++args.map a.eval++vy).size=(xs++args.toList.map (qab st.env)++ys).length:=by simp[hlx,hly]
   generalize vx++args.map a.eval++vy=vs at hargs hlen
   generalize xs++args.toList.map (qab st.env)++ys=ds at hargs hlen hin hos
   have hblk:=hm.blk b blk hlk
   have hnd:ow b≠ .dead:=fun h=>by rw[h]at hblk;exact hblk.2
   have howb:ow b=.empty∨∃g a k sz,ow b=.lies g a k sz∧¬pu g:=by
    obtain⟨i,off,len,hi⟩:=qnX hos
    have hv:=hargs i _ _ (Array.getElem?_eq_getElem (by rw[hlen];exact(List.getElem?_eq_some_iff.1 hi).1)) hi
    generalize vs[i]'_=v at hv
    cases hv with
    |pure _ _ h=>cases h
    |osd a n c _ _ _ h=>exact(hnd h).elim
    |ose a _ _ h=>exact .inl h
    |osa a cap _ _ _ g o k sz h _ _=>exact .inr ⟨g,o,k,sz,h,(hm.own b g o k sz h).2⟩
   obtain⟨h1,h2⟩:=qt4 hin
   have hbk:qbP w pu (owM (ow b)) (ow b) blk:=hblk.rezone hsc
   refine(hcon.2.2.2 pu w vs (ow b) hm.zone howb hbk (by omega) fun i v d hv hd=>?_).mono fun e w' ⟨⟨hbw,hh⟩,v,hev,hk',hrep⟩=>?_
   ·obtain⟨d0,hd0,hi0⟩:=h2 i d hd
    exact qz4 rfl hnd (hargs i v d0 hv hd0) hi0
   ·subst hev
    obtain⟨m1,m2,m3⟩:=hm.inplace hb.size hlk rfl hbw hh hk' hcon.2.1
    exact hN _ _ _ hst.2 ⟨pu,ow,m1,(he.mono m2).put (by rw[hs];exact hst.1) (qqH rfl hrep hcon.2.2.1),hb.trans m3,hz,fun c hc=>hid c (by omega),by rw[qcH];exact hs,by rw[qbK];exact hd.1,hd.2.step m2 fun _=>.inr rfl⟩
  ·exact h.elim
 ·exact h.elim
theorem qqI{o:Ow}{blk:Blk}(h:qbP w pu ow o blk)(hno:∀g,o≠ .mp g)(n:Nat):qbP w pu ow o ⟨blk.k,blk.flat,blk.rows.take n⟩:=by
 refine⟨fun hf=>?_,?_⟩
 ·have:=h.1 hf
  simp only[qal,List.all_eq_true]at this ⊢
  exact fun r hr=>this r (List.mem_of_mem_take hr)
 ·have h2:=h.2
  cases o with
  |dead=>exact h2
  |pending=>trivial
  |empty=>simp only at h2 ⊢;rw[h2];simp
  |mp g=>exact(hno g rfl).elim
  |lies g o k sz=>
   obtain⟨k1,k2,k3,k4,c,t,k5,k6,k7⟩:=h2
   refine⟨k1,k2,fun r hr=>k3 r (List.mem_of_mem_take hr),?_,c,t,k5,k6,fun i j d hd=>k7 i j d ?_⟩
   ·have:(blk.rows.take n).length*k≤blk.rows.length*k:=Nat.mul_le_mul_right k (by rw[List.length_take];omega)
    show o+(blk.rows.take n).length*k≤sz
    omega
   ·unfold qar at hd ⊢
    rw[List.getElem?_take]at hd
    split at hd
    ·exact hd
    ·cases hd
theorem qpC{w w':World}{pu pu':Nat→Prop}{v:Value}{d:D}(h:RepP w pu v d)(hs:qaU d=true):RepP w' pu' v d:=by
 cases h with
 |undef v=>exact .undef v
 |skip=>exact .skip
 |int k n=>exact .int k n
 |bool b=>exact .bool b
 |str s=>exact .str s
 |float k n=>exact .float k n
 |nilptr=>exact .nilptr
 |nilfunc=>exact .nilfunc
 |nilif=>exact .nilif
 |_=>cases hs
theorem qlH{rows:List (List D)}(h:qef rows=true)(n:Nat):qef (rows.take n)=true:=by
 simp only[qef,List.all_eq_true]at h ⊢
 exact fun r hr=>h r (List.mem_of_mem_take hr)
theorem qmz(z:Array Value)(n:Nat):(Builtin.zeroCells z n).toList.length=n*z.size:=by simp[Builtin.zeroCells]
theorem qmA{z:Array Value}(h:∀v∈z,v.oneCell'=true)(n:Nat):∀v∈(Builtin.zeroCells z n).toList,v.oneCell'=true:=by
 intro v hv
 simp only[Builtin.zeroCells,Array.toList_map,List.mem_map,Array.toList_range,List.mem_range]at hv
 obtain⟨i,hi,rfl⟩:=hv
 have hz:0<z.size:=by
  rcases Nat.eq_zero_or_pos z.size with h0|h0
  ·rw[h0,Nat.mul_zero]at hi;omega
  ·exact h0
 have hlt:i%z.size<z.size:=Nat.mod_lt _ hz
 rw[getElem!_pos z _ hlt]
 exact h _ (Array.getElem_mem _)
theorem qnY{e:TypeId}{k:Nat}(h:qz3 P e k=true):∃i z,P.info? e=some i∧i.zero=some z∧z.cells.size=k∧∀v∈z.cells,v.oneCell'=true:=by
 unfold qz3 at h
 split at h
 ·rename_i i hi
  split at h
  ·rename_i z hz
   simp only[Bool.and_eq_true,beq_iff_eq,Array.all_eq_true_iff_forall_mem]at h
   exact⟨i,z,hi,hz,h.1,h.2⟩
  ·cases h
 ·cases h
theorem qsn{o:Oper}{id:Nat}{st:St}{a:Act}{K:X→St→Prop}{N:Act→World→Prop}{R:Exit→Act→World→Prop}
  (hi:qbT w0 S id st a w) (h:qit P o.op o.dst st K) (hN:∀st' a' w',K .normal st'→qbT w0 S (id+32) st' a' w'→N a' w'):o.wp P a w N R:=by
 obtain⟨pu,ow,hm,he,hb,hz,hid,hs,hd⟩:=hi
 unfold qit at h
 split at h
 ·rename_i op args ts ho
  obtain⟨x,t,e,b,off,len,blk,rfl,rfl,hu,hclr,hx,hlk,hsc,hle,hst⟩:=h
  have hv:=he.eval x
  rw[hx]at hv
  have hblk:=hm.blk b blk hlk
  have hbk:qbP w pu (owM (ow b)) (ow b) blk:=hblk.rezone hsc
  have hrunof:∀w',(Builtin.clear_ #[t] o.type #[a.eval x]).run P w=.ok (.tuple #[]) w'→(execOp a.eval o).run P w=.ok (.value (.tuple #[])) w':=by
   intro w' hr
   obtain⟨dst,op,ty,pos,after,guard⟩:=o
   simp only at ho hr
   subst ho
   simp[execOp,resolve,invoke,builtin,hr]
  have done:∀w',(Builtin.clear_ #[t] o.type #[a.eval x]).run P w=.ok (.tuple #[]) w'→Below 0 w w'→(∀g,g<w.heap.size→(∀a k sz,ow b≠ .lies g a k sz)→w'.heap[g]? =w.heap[g]?)→
    qbP w' pu (owM (ow b)) (ow b) ⟨blk.k,blk.flat,blk.rows.take off⟩→o.wp P a w N R:=by
   intro w' hr hbw hh hk'
   obtain⟨m1,m2,m3⟩:=hm.inplace hb.size hlk rfl hbw hh hk' (qlH hsc off)
   exact qew m1 (he.mono m2) (hb.trans m3) hz (fun c hc=>hid c (by omega)) hs ⟨hd.1,hd.2.step m2 fun _=>.inr rfl⟩ (hrunof w' hr) (.tup _ _ rfl fun i v d h1 h2=>by simp at h2) hst hN
  have none_case:∀(p:Option Addr) (c:Nat),a.eval x=.slice p 0 c→(∀g,ow b≠ .mp g)→o.wp P a w N R:=by
   intro p c hval hno
   refine done w ?_ (Below.refl _ _) (fun _ _ _=>rfl) (qqI hbk hno off)
   rw[hval]
   cases p<;>simp[Builtin.clear_,run_underlying hu]
  generalize hva:a.eval x=va at hv
  cases hv with
  |pure _ _ h=>cases h
  |osd a n c _ _ _ hdd=>rw[hdd]at hblk;exact hblk.2.elim
  |ose a' _ _ hem=>exact none_case a' 0 hva (by rw[hem];simp)
  |osa a' cap _ _ _ g o' k sz hat hl hmm=>
   by_cases hlen:len=0
   ·subst hlen;exact none_case a' cap hva (by rw[hat];simp)
   obtain⟨rfl,hfit⟩:=hmm (by omega)
   rw[hat]at hbk
   obtain⟨h1,h2,h3,h4,h5,c,ct,h6,h7,h8⟩:=hbk
   obtain⟨i,z,hi,hzz,hzs,hzo⟩:=qnY hclr
   have hkk:blk.k=k:=h2
   have hlenc:(Builtin.zeroCells z.cells len).toList.length=len*k:=by rw[qmz,hzs,hkk]
   have hroom:o'+off*k+0+(Builtin.zeroCells z.cells len).toList.length≤c.size:=by
    rw[hlenc,h7]
    have:=Nat.mul_le_mul_right k (show off+len≤blk.rows.length from hle)
    rw[Nat.add_mul]at this
    omega
   have hrun:=run_storeCells_at (P:=P) g (o'+off*k) ct (Builtin.zeroCells z.cells len).toList 0 c w h6 hroom (qmA hzo len)
   refine done (w.setRow g (c.toList.take (o'+off*k+0)++(Builtin.zeroCells z.cells len).toList++c.toList.drop (o'+off*k+0+(Builtin.zeroCells z.cells len).toList.length)).toArray) (by
    rw[hva]
    obtain⟨m,rfl⟩:∃m,len=m+1:=⟨len-1,by omega⟩
    simp[Builtin.clear_,zeroValue,typeInfo,run_underlying hu,hi,hzz,hrun]) ⟨rfl,rfl,rfl,by simp,fun q hq=>absurd hq (Nat.not_lt_zero q),.same rfl⟩ (fun q hq hno=>setRow_other w g q _ (by rintro rfl;exact hno _ _ _ hat)) ?_
   rw[hat]
   have hb':qbP w pu (owM (.lies g o' k sz)) (.lies g o' k sz) ⟨blk.k,blk.flat,blk.rows.take off⟩:=qqI (o:=.lies g o' k sz) (blk:=blk) ⟨h1,h2,h3,h4,h5,c,ct,h6,h7,h8⟩ (by simp) off
   obtain⟨g1,g2,g3,g4,g5,_⟩:=hb'
   refine⟨g1,g2,g3,g4,g5,_,ct,setRow_heap w g c _ ct _ h6,?_,?_⟩
   ·have:(c.toList.take (o'+off*k+0)++(Builtin.zeroCells z.cells len).toList++c.toList.drop (o'+off*k+0+(Builtin.zeroCells z.cells len).toList.length)).length=sz:=by
     simp only[List.length_append,List.length_take,List.length_drop,Array.length_toList,hlenc,h7]
     rw[hlenc,h7]at hroom
     omega
    simpa using this
   ·intro i j d hd
    have hij:qar blk.rows i j=some d∧i<off∧j<k:=by
     unfold qar at hd ⊢
     obtain⟨r,hr,hj⟩:=Option.bind_eq_some_iff.1 hd
     have hr':=hr
     rw[List.getElem?_take]at hr
     split at hr
     ·rename_i hlt
      refine⟨by rw[hr];exact hj,hlt,?_⟩
      have:=h4 r (List.mem_of_getElem? hr)
      rw[←this];exact(List.getElem?_eq_some_iff.1 hj).1
     ·cases hr
    obtain⟨v,hv,hr⟩:=h8 i j d hij.1
    have hlt:o'+i*k+j<o'+off*k:=by
     have:=Nat.mul_le_mul_right k (show i+1≤off from hij.2.1)
     rw[Nat.add_mul]at this
     omega
    have hsd:qaU d=true:=by
     unfold qar at hd
     obtain⟨r,hr',hj⟩:=Option.bind_eq_some_iff.1 hd
     exact List.all_eq_true.1 (List.all_eq_true.1 (qlH hsc off) r (List.mem_of_getElem? hr')) d (List.mem_of_getElem? hj)
    refine⟨v,?_,?_⟩
    ·rw[List.getElem?_toArray,List.append_assoc,List.getElem?_append_left (by rw[List.length_take,Array.length_toList];have:=(Array.getElem?_eq_some_iff.1 hv).1;omega),List.getElem?_take,if_pos (by omega),Array.getElem?_toList]
     exact hv
    ·cases hr with
     |pure _ _ hp=>exact .pure _ _ (qpC hp hsd)
     |_=>cases hsd
 ·exact h.elim
theorem Mem.mapPut(hm:Mem base w pu ow (lkH hp)){b g:Nat}{blk blk':Blk}(hb:lkH hp b=some blk)(hat:ow b=.mp g)(o:Obj)(hk:qbP {w with heap:=w.heap.setIfInBounds g o} pu ow (.mp g) blk'):
  Mem base {w with heap:=w.heap.setIfInBounds g o} pu ow (lkH (qjl b blk' hp))∧Ext w pu ow {w with heap:=w.heap.setIfInBounds g o} pu ow∧Below base w {w with heap:=w.heap.setIfInBounds g o}:=by
 have hoth:∀x,x≠g→(w.heap.setIfInBounds g o)[x]? =w.heap[x]?:=fun x hx=>by rw[Array.getElem?_setIfInBounds,if_neg (fun e=>hx e.symm)]
 have hext:Ext w pu ow {w with heap:=w.heap.setIfInBounds g o} pu ow:=⟨fun x hx=>⟨hx,hoth x (by rintro rfl;exact(hm.ownO b _ (Ow.on_mp hat)).2 hx)⟩,fun _=>.inr (.inl rfl)⟩
 refine⟨⟨fun c blk2 hc=>?_,fun c hc=>?_,hm.injO,hm.ownO,fun x hx=>?_⟩,hext,⟨rfl,rfl,rfl,by simp,fun x hx=>hoth x ?_,.same rfl⟩⟩
 ·rw[qfc]at hc
  split at hc
  ·rename_i h
   obtain⟨rfl,_⟩:=h
   injection hc with hc;subst hc
   rw[hat];exact hk
  ·rename_i h
   have hcb:c≠b:=fun e=>h ⟨e,by rw[hc];rfl⟩
   exact(hm.blk c blk2 hc).mono hext fun x hx=>hoth x (by rintro rfl;exact hcb (hm.injO c b _ hx (Ow.on_mp hat)))
 ·rw[qfc]at hc
  split at hc
  ·cases hc
  ·exact hm.none c hc
 ·show x<(w.heap.setIfInBounds g o).size
  simpa using hm.zone x hx
 ·have:=(hm.ownO b _ (Ow.on_mp hat)).1
  omega
theorem qnZ{o:Oper}{id:Nat}{st:St}{a:Act}{K:X→St→Prop}{N:Act→World→Prop}{R:Exit→Act→World→Prop}
  (hi:qbT w0 S id st a w) (h:qgH P o.op o.dst st K) (hN:∀st' a' w',K .normal st'→qbT w0 S (id+32) st' a' w'→N a' w'):o.wp P a w N R:=by
 obtain⟨pu,ow,hm,he,hb,hz,hid,hs,hd⟩:=hi
 have hid':∀b,id+32≤b→ow b=.pending:=fun b hb=>hid b (by omega)
 unfold qgH at h
 split at h
 ·rename_i op args ts hop
  obtain⟨x,y,t,e,b,off,len,m,blk,new,fl,rows,rfl,rfl,hu,hpos,hx,hlk,hbk,hbl,hmin,hm0,hcont,hnr,hnc,hrows,hnf,hky,hst⟩:=h
  have hvx:=he.eval x
  rw[hx]at hvx
  obtain⟨ad,cap,hxv,hcase⟩:=hvx.os_inv (hm.live hlk)
  rcases hcase with⟨_,h0,_⟩|⟨g,o',k,sz,hat,hlc,hmm⟩
  ·omega
  obtain⟨rfl,hsz⟩:=hmm (by omega)
  have hblk:=hm.blk b blk hlk
  rw[hat]at hblk
  obtain⟨hfl,h1,h2,h3,h4,c,ct,h5,h6,h7⟩:=hblk
  have hkk:k=P.cellsOf e:=by rw[←h1];exact hbk
  subst hkk
  obtain⟨ay,capy,F,hyv,hly,hgy,hFy⟩:=qip (k:=P.cellsOf e) hm hpos hnr (he.eval y) (fun b' off' len' blk' hd' hb'=>by
   rw[hd']at hky
   simp only[kOK,hb',Bool.or_eq_true,beq_iff_eq]at hky
   exact hky) hcont
  obtain⟨gy,oy,rfl,hcy⟩:=hgy (by intro hh;rw[hh]at hmin;simp at hmin;omega)
  have hmn:m≤new.length:=by omega
  have hfit:o'+off*P.cellsOf e+m*P.cellsOf e≤c.toList.length:=by
   have:=Nat.mul_le_mul_right (P.cellsOf e) (show off+m≤off+cap by omega)
   rw[Nat.add_mul]at this
   simp only[Array.length_toList,h6]
   omega
  have hmk:=Nat.mul_le_mul_right (P.cellsOf e) hmn
  have hone:∀v∈(List.range (m*P.cellsOf e)).map F,v.oneCell'=true:=by
   intro v hv
   obtain⟨q,hq,rfl⟩:=List.mem_map.1 hv
   rw[List.mem_range]at hq
   have hq':q/P.cellsOf e<new.length:=Nat.div_lt_of_lt_mul (by rw[Nat.mul_comm];omega)
   have hmod:=Nat.mod_lt q hpos
   have hrow:=hnr _ (List.getElem_mem hq')
   have hd':qar new (q/P.cellsOf e) (q%P.cellsOf e)=some ((new[q/P.cellsOf e]'hq')[q%P.cellsOf e]'(by omega)):=by
    simp[qar,List.getElem?_eq_getElem hq',List.getElem?_eq_getElem (show q%P.cellsOf e<(new[q/P.cellsOf e]'hq').length by omega)]
   have:=hFy _ _ _ hd'
   rw[Nat.mul_comm,Nat.div_add_mod]at this
   exact qjV this (hnc _ (List.getElem_mem hq') _ (List.getElem_mem _))
  have hcsl:((List.range (m*P.cellsOf e)).map F).length=m*P.cellsOf e:=by simp
  have hst0:=run_storeCells_at (P:=P) g (o'+off*P.cellsOf e) ct ((List.range (m*P.cellsOf e)).map F) 0 c w h5 (by rw[hcsl];simpa using hfit) hone
  have hspl:(c.toList.take (o'+off*P.cellsOf e+0)++(List.range (m*P.cellsOf e)).map F++c.toList.drop (o'+off*P.cellsOf e+0+((List.range (m*P.cellsOf e)).map F).length))=qbe c.toList (o'+off*P.cellsOf e) ((List.range (m*P.cellsOf e)).map F):=by simp[qbe]
  rw[hspl]at hst0
  have hload:=run_loadCells (P:=P) w ⟨gy,oy,none⟩ (m*P.cellsOf e) F (fun j hj=>by rw[Addr.add_spotless];exact hcy j (by omega))
  have hll:o'+off*P.cellsOf e+((List.range (m*P.cellsOf e)).map F).length≤c.toList.length:=by rw[hcsl];exact hfit
  have hcopy:(Builtin.copy_ #[t,t] o.type #[.slice (some ⟨g,o'+off*P.cellsOf e,none⟩) len cap,.slice (some ⟨gy,oy,none⟩) new.length capy]).run P w=.ok (goInt m) (w.setRow g (qbe c.toList (o'+off*P.cellsOf e) ((List.range (m*P.cellsOf e)).map F)).toArray):=by
   have hmin':Nat.min new.length len=m:=by show min new.length len=m;rw[Nat.min_comm];exact hmin
   simp only[Builtin.copy_,Sem.run_bind,run_underlying hu,Builtin.lenOf,Builtin.firstCells,qa0 hpos,hmin',Result.andThen_ok,Sem.run_pure,List.getElem?_toArray,List.getElem?_cons_zero,List.getElem?_cons_succ,hload,hst0]
  have hrun:(execOp a.eval o).run P w=.ok (.value (.int .i64 m)) (w.setRow g (qbe c.toList (o'+off*P.cellsOf e) ((List.range (m*P.cellsOf e)).map F)).toArray):=by
   obtain⟨dst,op,ty,pos,after,guard⟩:=o
   simp only at hop hcopy
   subst hop
   simp[execOp,resolve,invoke,builtin,hxv,hyv,hcopy,goInt]
  have hto:(blk.rows.take off).length=off:=by rw[List.length_take];omega
  have htm:(new.take m).length=m:=by rw[List.length_take];omega
  have hrl:rows.length=blk.rows.length:=by rw[hrows];simp;omega
  obtain⟨m1,m2⟩:=hm.store (blk':=⟨blk.k,fl,rows⟩) hlk hat (qbe c.toList (o'+off*P.cellsOf e) ((List.range (m*P.cellsOf e)).map F)).toArray
   (by rw[List.size_toArray,qcC hll];simpa using h6) hnf rfl hrl (fun r hr=>by
    simp only[hrows,List.mem_append]at hr
    rcases hr with(hr|hr)|hr
    ·exact h3 r (List.mem_of_mem_take hr)
    ·exact hnr r (List.mem_of_mem_take hr)
    ·exact h3 r (List.mem_of_mem_drop hr))
   (fun i j d hd'=>by
    have hd2:=hd'
    unfold qar at hd'
    obtain⟨r,hr,hj⟩:=Option.bind_eq_some_iff.1 hd'
    have hjk:j<P.cellsOf e:=by
     have:=(List.getElem?_eq_some_iff.1 hj).1
     have hmem:=List.mem_of_getElem? hr
     simp only[hrows,List.mem_append]at hmem
     rcases hmem with(hmem|hmem)|hmem
     ·rw[h3 r (List.mem_of_mem_take hmem)]at this;exact this
     ·rw[hnr r (List.mem_of_mem_take hmem)]at this;exact this
     ·rw[h3 r (List.mem_of_mem_drop hmem)]at this;exact this
    have hr':rows[i]? =if i<off then blk.rows[i]? else if i<off+m then new[i-off]? else blk.rows[i]?:=by
     rw[hrows,List.append_assoc,List.getElem?_append,hto]
     split
     ·rename_i hlt
      rw[List.getElem?_take,if_pos hlt]
     ·rename_i hlt
      rw[List.getElem?_append,htm]
      by_cases hl2:i<off+m
      ·rw[if_pos (by omega),if_pos hl2,List.getElem?_take,if_pos (by omega)]
      ·rw[if_neg (by omega),if_neg hl2,List.getElem?_drop,show off+m+(i-off-m)=i by omega]
    rw[hr]at hr'
    by_cases hin:off≤i∧i<off+m
    ·rw[if_neg (by omega),if_pos hin.2]at hr'
     have hcell:qar new (i-off) j=some d:=by simp[qar,←hr',hj]
     have hlt:(i-off)*P.cellsOf e+j<m*P.cellsOf e:=by
      have:=Nat.mul_le_mul_right (P.cellsOf e) (show i-off+1≤m by omega)
      rw[Nat.add_mul]at this
      omega
     have hoi:o'+i*P.cellsOf e+j-(o'+off*P.cellsOf e)=(i-off)*P.cellsOf e+j:=by
      have:i*P.cellsOf e=off*P.cellsOf e+(i-off)*P.cellsOf e:=by rw[←Nat.add_mul,show off+(i-off)=i by omega]
      omega
     refine⟨F ((i-off)*P.cellsOf e+j),?_,hFy _ j d hcell⟩
     have hoff:off*P.cellsOf e≤i*P.cellsOf e:=Nat.mul_le_mul_right _ hin.1
     have:i*P.cellsOf e=off*P.cellsOf e+(i-off)*P.cellsOf e:=by rw[←Nat.add_mul,show off+(i-off)=i by omega]
     rw[List.getElem?_toArray,qcL hll,if_pos (by rw[hcsl];omega),hoi]
     exact qdY hlt
    ·have hold:blk.rows[i]? =some r:=by
      rcases Nat.lt_or_ge i off with h'|h'
      ·rw[if_pos h']at hr';exact hr'.symm
      ·rw[if_neg (by omega),if_neg (by omega)]at hr';exact hr'.symm
     obtain⟨v,hv,hrep⟩:=h7 i j d (by simp[qar,hold,hj])
     refine⟨v,?_,hrep⟩
     rw[List.getElem?_toArray,qcL hll,if_neg ?_,Array.getElem?_toList]
     ·exact hv
     ·rw[hcsl]
      rintro⟨q1,q2⟩
      apply hin
      constructor
      ·refine Nat.not_lt.1 fun hlt=>?_
       have:=Nat.mul_le_mul_right (P.cellsOf e) (show i+1≤off by omega)
       rw[Nat.add_mul]at this
       omega
      ·refine Nat.not_le.1 fun hlt=>?_
       have:=Nat.mul_le_mul_right (P.cellsOf e) hlt
       rw[Nat.add_mul]at this
       omega)
  have hhp:lkH (qjl b ⟨blk.k,fl,rows⟩ st.hp)=qyZ b ⟨blk.k,fl,rows⟩ (lkH st.hp):=by
   funext z
   rw[qfc]
   unfold qyZ
   by_cases hz':z=b
   ·subst hz';simp[hlk]
   ·simp[hz']
  rw[←hhp]at m1
  exact qew m1 (he.mono m2) (hb.trans (qe7 (Below.refl _ _) (hm.own b _ _ _ _ hat).1 _)) hz hid' hs ⟨hd.1,hd.2.step m2 fun _=>.inr rfl⟩ hrun (.pure _ _ (.int _ _)) hst hN
 ·exact h.elim
theorem qxj{o:Oper}{id:Nat}{st:St}{a:Act}{K:X→St→Prop}{N:Act→World→Prop}{R:Exit→Act→World→Prop}
  (hi:qbT w0 S id st a w) (h:qsm P o.op id o.dst st K) (hN:∀st' a' w',K .normal st'→qbT w0 S (id+32) st' a' w'→N a' w'):o.wp P a w N R:=by
 obtain⟨pu,ow,hm,he,hb,hz,hid,hs,hd⟩:=hi
 have hid':∀b,id+32≤b→ow b=.pending:=fun b hb=>hid b (by omega)
 unfold qsm at h
 split at h
 ·rename_i op t hop
  have hm':Mem w0.heap.size w pu ow (lkH ((id,⟨0,true,[]⟩)::st.hp)):=by
   refine⟨fun b blk' hb'=>?_,fun b hb'=>?_,hm.injO,hm.ownO,hm.zone⟩
   ·simp only[lkH]at hb'
    split at hb'
    ·rename_i hbi
     subst hbi
     rw[hid b (Nat.le_refl _)]
     injection hb' with hb';subst hb'
     exact⟨fun _=>rfl,trivial⟩
    ·exact hm.blk b blk' hb'
   ·simp only[lkH]at hb'
    split at hb'
    ·cases hb'
    ·exact hm.none b hb'
  have hpid:=hid id (Nat.le_refl _)
  obtain⟨m1,m2⟩:=hm'.newMap (blk:=⟨0,true,[]⟩) hpid (by simp[lkH]) hb.size rfl ⟨rfl,rfl⟩
  refine qew m1 (he.mono m2) (hb.trans ((qed w _).mono hb.size)) hz (fun b hb'=>by rw[qau (by omega)];exact hid' b hb') hs ⟨hd.1,hd.2.step m2 fun c=>by by_cases hc:c=id;(subst hc;exact .inl hpid);exact .inr (qau hc)⟩ (v:=.map (some w.heap.size)) ?_ (.oma _ _ (qbz _ _ _)) h hN
  obtain⟨dst,op,ty,pos,after,guard⟩:=o
  simp only at hop
  subst hop
  simp[execOp,Instr.makeMap]
 ·rename_i op t m k v hop
  obtain⟨b,rows,k',kt,et,td,hu,htd,hmd,hlk,hkey,hval,hfind,hst⟩:=h
  have hme:=he.eval m
  rw[hmd]at hme
  obtain⟨g,hat,hmv⟩:=hme.om_inv (hm.live hlk)
  have hblk:=hm.blk b _ hlk
  rw[hat]at hblk
  obtain⟨hfl,hk0,es,clock,hg,hrows⟩:=hblk
  obtain⟨kv,hk1,hkk⟩:=qnH hkey
  obtain⟨vv,hv1⟩:=Option.isSome_iff_exists.1 hval
  have ekv:=qjR (he.eval k) hk1
  have evv:=qjR (he.eval v) hv1
  have hfn:=qgg hk1 rows es.toList 0 _ hrows hfind
  have hget:=MapKept.run_getObj_map (P:=P) hg
  have hchk:=MapKept.run_checkKey (P:=P) (w:=w) htd hkk false 9999
  have hfk:=MapKept.run_findKey (P:=P) (w:=w) htd hfn
  have hset:=MapKept.run_setObj_map (P:=P) (w:=w) (.map (es.push {key:=kv,val:=vv,born:=clock}) (clock+1)) hg
  have hlite:∀{d:D} {u:Value},qfF d=some u→qjO d=true:=fun{d u} h=>by cases d<;>simp[qfF]at h<;>rfl
  obtain⟨m1,m2,m3⟩:=hm.mapPut (blk':=⟨0,true,rows++[[qab st.env k,qab st.env v]]⟩) hlk hat (.map (es.push {key:=kv,val:=vv,born:=clock}) (clock+1)) ⟨fun _=>by
    have h0:=hfl rfl
    simp only[qal,List.all_append,Bool.and_eq_true]at h0 ⊢
    refine⟨h0,?_⟩
    simp[hlite hk1,hlite hv1],⟨rfl,rfl⟩,es.push {key:=kv,val:=vv,born:=clock},clock+1,by
    show(w.heap.setIfInBounds g _)[g]? =_
    rw[Array.getElem?_setIfInBounds,if_pos rfl,if_pos (Array.getElem?_eq_some_iff.1 hg).1],by
    have h0:qgT es.toList rows:=hrows
    unfold qgT at h0 ⊢
    simp[h0,hk1,hv1]⟩
  have hrun:(execOp a.eval o).run P w=.ok .skip {w with heap:=w.heap.setIfInBounds g (.map (es.push {key:=kv,val:=vv,born:=clock}) (clock+1))}:=by
   obtain⟨dst,op,ty,pos,after,guard⟩:=o
   simp only at hop
   subst hop
   simp[execOp,Instr.mapUpdate,hmv,ekv,evv,run_underlying hu,hget,hchk,hfk,hset,Result.andThen]
  unfold Oper.wp
  rw[hrun,Oper.upon_skip]
  exact hN _ _ _ hst.2 ⟨pu,ow,m1,(he.mono m2).put (by rw[hs];exact hst.1) (.pure _ _ .skip),hb.trans m3,hz,hid',by rw[qcH];exact hs,by rw[qbK];exact hd.1,hd.2.step m2 fun _=>.inr rfl⟩
 ·exact h.elim
theorem qgm{b:Nat}:∀{ds ds':List D},qz2 hp b ds=some ds'→ds'.length=ds.length∧∀(i:Nat) (d':D),ds'[i]? =some d'→∃d,ds[i]? =some d∧inX hp b d=some d'
 |[],ds',h=>by simp[qz2]at h;subst h;exact⟨rfl,fun i d h=>by simp at h⟩
 |d::ds,ds',h=>by
  simp only[qz2]at h
  split at h
  ·rename_i e es h1 h2
   injection h with h;subst h
   obtain⟨h3,h4⟩:=qgm h2
   refine⟨by simp[h3],fun i d' hi=>?_⟩
   cases i with
   |zero=>simp at hi;subst hi;exact⟨d,rfl,h1⟩
   |succ i=>obtain⟨x,hx,hy⟩:=h4 i d' (by simpa using hi);exact⟨x,by simpa using hx,hy⟩
  ·cases h
theorem qeQ{b:Nat}:∀{ds:List D},qpB b ds=true→∃(i:Nat) (d:D),ds[i]? =some d∧qtC b d=true
 |[],h=>by simp[qpB]at h
 |d::ds,h=>by
  simp only[qpB,Bool.or_eq_true]at h
  rcases h with h|h
  ·exact⟨0,d,rfl,h⟩
  ·obtain⟨i,e,hi,he⟩:=qeQ h
   exact⟨i+1,e,by simpa using hi,he⟩
theorem qz5{b:Nat}(hnd:ow b≠ .dead){v:Value}{d:D}(h:Rep w pu ow v d):qtC b d=true→ow b=.empty∨∃g a k sz,ow b=.lies g a k sz:=by
 induction h with
 |clo fn xs ys cs ds hx h1 hy h2 ih1 ih2=>
  intro hh
  simp only[qtC,Bool.or_eq_true]at hh
  rcases hh with hh|hh
  ·obtain⟨i,e,hi,he⟩:=qeQ hh
   have hlt:i<cs.length:=(List.getElem?_eq_some_iff.1 hi).1
   exact ih1 i _ e (Array.getElem?_eq_getElem (by omega)) hi he
  ·obtain⟨i,e,hi,he⟩:=qeQ hh
   have hlt:i<ds.length:=(List.getElem?_eq_some_iff.1 hi).1
   exact ih2 i _ e (Array.getElem?_eq_getElem (by omega)) hi he
 |pure v d h=>
  intro hh
  induction h with
  |clo fn xs ys cs ds hx h1 hy h2 ih1 ih2=>
   simp only[qtC,Bool.or_eq_true]at hh
   rcases hh with hh|hh
   ·obtain⟨i,e,hi,he⟩:=qeQ hh
    have hlt:i<cs.length:=(List.getElem?_eq_some_iff.1 hi).1
    exact ih1 i _ e (Array.getElem?_eq_getElem (by omega)) hi he
   ·obtain⟨i,e,hi,he⟩:=qeQ hh
    have hlt:i<ds.length:=(List.getElem?_eq_some_iff.1 hi).1
    exact ih2 i _ e (Array.getElem?_eq_getElem (by omega)) hi he
  |_=>simp[qtC]at hh
 |osd a n c b' off len hb=>intro hh;simp only[qtC,beq_iff_eq]at hh;subst hh;exact(hnd hb).elim
 |ose a b' off hb=>intro hh;simp only[qtC,beq_iff_eq]at hh;subst hh;exact .inl hb
 |osa a cap b' off len g o k sz hb hl hm=>intro hh;simp only[qtC,beq_iff_eq]at hh;subst hh;exact .inr ⟨g,o,k,sz,hb⟩
 |opd a b' row off hb=>intro hh;simp only[qtC,beq_iff_eq]at hh;subst hh;exact(hnd hb).elim
 |opa b' row off g o k sz hb=>intro hh;simp only[qtC,beq_iff_eq]at hh;subst hh;exact .inr ⟨g,o,k,sz,hb⟩
 |_=>intro hh;simp[qtC]at hh
def owX(ow:Nat→Ow)(b:Nat):Nat→Ow:=fun c=>if c=b then .dead else ow c
theorem qGh{b:Nat}:Ext w pu ow w pu (owX ow b):=⟨fun _ h=>⟨h,rfl⟩,fun c=>by unfold owX;split;exact .inr (.inr rfl);exact .inr (.inl rfl)⟩
theorem Mem.dropX(hm:Mem base w pu ow (lkH hp))(b:Nat):Mem base w pu (owX ow b) (hpX hp b):=by
 refine⟨fun c blk hc=>?_,fun c hc=>?_,fun c c' g h1 h2=>?_,fun c g h1=>?_,hm.zone⟩
 ·unfold hpX at hc
  split at hc
  ·cases hc
  ·rename_i hne
   have:owX ow b c=ow c:=by simp[owX,hne]
   rw[this]
   exact(hm.blk c blk hc).mono qGh fun g _=>rfl
 ·unfold hpX at hc
  split at hc
  ·rename_i e;subst e;exact .inl (by simp[owX])
  ·rename_i hne
   have:owX ow b c=ow c:=by simp[owX,hne]
   rw[this]
   exact hm.none c hc
 ·unfold owX at h1 h2
  split at h1
  ·exact h1.elim
  ·split at h2
   ·exact h2.elim
   ·exact hm.injO c c' g h1 h2
 ·unfold owX at h1
  split at h1
  ·exact h1.elim
  ·exact hm.ownO c g h1
def qso(pu:Nat→Prop)(ow:Nat→Ow)(b:Nat):Nat→Prop:=fun g=>pu g∨∃c a k sz,c≠b∧ow c=.lies g a k sz
theorem qz6{b:Nat}(hm:Mem base w pu ow (lkH hp))(hnd:ow b≠ .dead){v:Value}{d:D}(h:Rep w pu ow v d):∀d',inX hp b d=some d'→Rep w (qso pu ow b) (owM (ow b)) v d':=by
 have hpur:∀(v:Value) (d d':D),Rep w pu ow v d→pur (hpX hp b) 64 d=some d'→Rep w (qso pu ow b) (owM (ow b)) v d':=fun v d d' h hp'=>
  .pure _ _ (qlA (hm.dropX b) (fun g hg=>.inl hg) 64 v d d' (h.mono qGh) (.inr fun c g o k sz hc=>by
   unfold owX at hc
   split at hc
   ·cases hc
   ·rename_i hne;exact .inr ⟨c,o,k,sz,hne,hc⟩) hp')
 induction h with
 |clo fn xs ys cs ds hx h1 hy h2 ih1 ih2=>
  intro d' hd
  simp only[inX]at hd
  split at hd
  ·rename_i cs' ds' e1 e2
   injection hd with hd;subst hd
   obtain⟨l1,g1⟩:=qgm e1
   obtain⟨l2,g2⟩:=qgm e2
   refine .clo fn xs ys cs' ds' (by omega) (fun i v e hv he=>?_) (by omega) fun i v e hv he=>?_
   ·obtain⟨e0,he0,hi0⟩:=g1 i e he
    exact ih1 i v e0 hv he0 e hi0
   ·obtain⟨e0,he0,hi0⟩:=g2 i e he
    exact ih2 i v e0 hv he0 e hi0
  ·cases hd
 |pure v d h=>
  induction h with
  |clo fn xs ys cs ds hx h1 hy h2 ih1 ih2=>
   intro d' hd
   simp only[inX]at hd
   split at hd
   ·rename_i cs' ds' e1 e2
    injection hd with hd;subst hd
    obtain⟨l1,g1⟩:=qgm e1
    obtain⟨l2,g2⟩:=qgm e2
    refine .clo fn xs ys cs' ds' (by omega) (fun i v e hv he=>?_) (by omega) fun i v e hv he=>?_
    ·obtain⟨e0,he0,hi0⟩:=g1 i e he
     exact ih1 i v e0 hv he0 e hi0
    ·obtain⟨e0,he0,hi0⟩:=g2 i e he
     exact ih2 i v e0 hv he0 e hi0
   ·cases hd
  |_=>intro d' hd;refine hpur _ _ d' (.pure _ _ ?_) (by simpa only[inX]using hd);first|(constructor;done)|(constructor<;>assumption)
 |osd a n c b' off len hb=>
  intro d' hd
  simp only[inX]at hd
  split at hd
  ·rename_i e;subst e;exact(hnd hb).elim
  ·exact hpur _ _ _ (.osd a n c b' off len hb) hd
 |ose a b' off hb=>
  intro d' hd
  simp only[inX]at hd
  split at hd
  ·rename_i e;subst e
   injection hd with hd;subst hd
   exact .ose a 0 off (by simpa[owM]using hb)
  ·exact hpur _ _ _ (.ose a b' off hb) hd
 |osa a cap b' off len g o k sz hb hl hm'=>
  intro d' hd
  simp only[inX]at hd
  split at hd
  ·rename_i e;subst e
   injection hd with hd;subst hd
   exact .osa a cap 0 off len g o k sz (by simpa[owM]using hb) hl hm'
  ·exact hpur _ _ _ (.osa a cap b' off len g o k sz hb hl hm') hd
 |opd a b' row off hb=>
  intro d' hd
  simp only[inX]at hd
  split at hd
  ·rename_i e;subst e;exact(hnd hb).elim
  ·exact hpur _ _ _ (.opd a b' row off hb) hd
 |opa b' row off g o k sz hb=>
  intro d' hd
  simp only[inX]at hd
  split at hd
  ·rename_i e;subst e
   injection hd with hd;subst hd
   exact .opa 0 row off g o k sz (by simpa[owM]using hb)
  ·exact hpur _ _ _ (.opa b' row off g o k sz hb) hd
 |agg vs cs hl h _=>intro d' hd;exact hpur _ _ d' (.agg vs cs hl h) (by simpa only[inX]using hd)
 |tup vs cs hl h _=>intro d' hd;exact hpur _ _ d' (.tup vs cs hl h) (by simpa only[inX]using hd)
 |iface t v d h _=>intro d' hd;exact hpur _ _ d' (.iface t v d h) (by simpa only[inX]using hd)
 |nilsl=>intro d' hd;exact hpur _ _ d' .nilsl (by simpa only[inX]using hd)
 |omd r b' hb=>intro d' hd;exact hpur _ _ d' (.omd r b' hb) (by simpa only[inX]using hd)
 |oma b' g hb=>intro d' hd;exact hpur _ _ d' (.oma b' g hb) (by simpa only[inX]using hd)
theorem qlI{o:Oper}{id:Nat}{st:St}{a:Act}{K:X→St→Prop}{N:Act→World→Prop}{R:Exit→Act→World→Prop}
  (hi:qbT w0 S id st a w) (h:qeF P o.op o.dst st K) (hN:∀st' a' w',K .normal st'→qbT w0 S (id+32) st' a' w'→N a' w'):o.wp P a w N R:=by
 obtain⟨pu,ow,hm,he,hb,hz,hid,hs,hd⟩:=hi
 unfold qeF at h
 split at h
 ·rename_i op f args ts ho
  split at h
  ·rename_i g xs ys hfd
   obtain⟨b,blk,args',r,blk',hlk,hsc,hin,hos,hcon,hst⟩:=h
   have hf:=he.eval f
   rw[hfd]at hf
   obtain⟨vx,vy,hfv,hlx,hrx,hly,hry⟩:=hf.clo_inv
   unfold Oper.wp
   rw[qhw hcon.1 ho hfv,Oper.upon_enter]
   have hargs:∀(i:Nat) (v:Value) (d:D),(vx++args.map a.eval++vy)[i]? =some v→(xs++args.toList.map (qab st.env)++ys)[i]? =some d→Rep w pu ow v d:=by
    intro i v d h1 h2
    rw[Array.getElem?_append,Array.getElem?_append]at h1
    rw[List.getElem?_append,List.getElem?_append]at h2
    simp only[Array.size_append,Array.size_map,List.length_append,List.length_map,Array.length_toList,hlx]at h1 h2
    split at h1
    ·rename_i hlt
     rw[if_pos hlt]at h2
     split at h1
     ·rename_i hlt2
      rw[if_pos hlt2]at h2
      exact hrx i v d h1 h2
     ·rename_i hlt2
      rw[if_neg hlt2]at h2
      rw[Array.getElem?_map]at h1
      rw[List.getElem?_map,Array.getElem?_toList]at h2
      obtain⟨x,hx,rfl⟩:=Option.map_eq_some_iff.1 h1
      rw[hx]at h2
      injection h2 with h2;subst h2
      exact he.eval x
    ·rename_i hlt
     rw[if_neg hlt]at h2
     exact hry _ v d h1 h2
   have hlen:(vx++args.map a.eval++vy).size=(xs++args.toList.map (qab st.env)++ys).length:=by simp[hlx,hly]
   generalize vx++args.map a.eval++vy=vs at hargs hlen
   generalize xs++args.toList.map (qab st.env)++ys=ds at hargs hlen hin hos
   have hblk:=hm.blk b blk hlk
   have hnd:ow b≠ .dead:=fun h=>by rw[h]at hblk;exact hblk.2
   have howb:ow b=.empty∨∃g a k sz,ow b=.lies g a k sz∧¬qso pu ow b g:=by
    obtain⟨i,e,hi,he⟩:=qeQ hos
    have hv:=hargs i _ _ (Array.getElem?_eq_getElem (by rw[hlen];exact(List.getElem?_eq_some_iff.1 hi).1)) hi
    rcases qz5 hnd hv he with h|⟨g,o,k,sz,h⟩
    ·exact .inl h
    ·refine .inr ⟨g,o,k,sz,h,fun hz=>?_⟩
     rcases hz with hz|⟨c,o',k',sz',hne,hc⟩
     ·exact(hm.own b g o k sz h).2 hz
     ·exact hne (hm.injO c b g (Ow.on_lies hc) (Ow.on_lies h))
   obtain⟨h1,h2⟩:=qgm hin
   have hbk:qbP w (qso pu ow b) (owM (ow b)) (ow b) blk:=hblk.rezone hsc
   have hzone:∀g,qso pu ow b g→g<w.heap.size:=fun g hg=>by
    rcases hg with hg|⟨c,o',k',sz',_,hc⟩
    ·exact hm.zone g hg
    ·exact hm.at_lt hc
   refine(hcon.2.2.2 (qso pu ow b) w vs (ow b) hzone howb hbk (by omega) fun i v d hv hd=>?_).mono fun e w' ⟨⟨hbw,hh⟩,v,hev,hk',hrep⟩=>?_
   ·obtain⟨d0,hd0,hi0⟩:=h2 i d hd
    exact qz6 hm hnd (hargs i v d0 hv hd0) d hi0
   ·subst hev
    obtain⟨m1,m2,m3⟩:=hm.inplace hb.size hlk rfl hbw hh hk' hcon.2.1
    exact hN _ _ _ hst.2 ⟨pu,ow,m1,(he.mono m2).put (by rw[hs];exact hst.1) (qqH rfl hrep hcon.2.2.1),hb.trans m3,hz,fun c hc=>hid c (by omega),by rw[qcH];exact hs,by rw[qbK];exact hd.1,hd.2.step m2 fun _=>.inr rfl⟩
  ·exact h.elim
 ·exact h.elim
theorem qc1{all:List Oper}{K:X→St→Prop}:∀(l:List Oper) (id:Nat) (st:St) (a:Act) (w:World),(S.free∨∀o∈l,qfb o.op=true)→qbT w0 S id st a w→qbL P all l id st K→wpList P all.toArray (qii w0 S K) l a w
 |[],id,st,a,w,_,hi,h=>⟨_,h,hi⟩
 |o::rest,id,st,a,w,hNA,hi,h=>by
  have hNA1:S.free∨qfb o.op=true:=hNA.imp (fun h=>h) fun h=>h o (by simp)
  have hNA2:S.free∨∀o∈rest,qfb o.op=true:=hNA.imp (fun h=>h) fun h o ho=>h o (by simp[ho])
  have hrun:∀(hi:qbT w0 S id st a w),qan P o.op id o.dst st (fun x st'=>match x with|.normal=>qbL P all rest (id+32) st' K|x=>K x st')→o.wp P a w (wpList P all.toArray (qii w0 S K) rest) (qii w0 S K):=fun hi hr=>
   qgX hNA1 hi hr (fun st' a' w' hK hi'=>qc1 rest _ st' a' w' hNA2 hi' hK) fun d chain w' hK hp=>⟨d,st,hK,hi.defers,hp⟩
  unfold qbL at h
  simp only at h
  unfold wpList
  rcases h with h|⟨hg,h⟩
  ·cases hg:o.guard with
   |none=>
    rw[hg]at h
    rw[if_pos (by simp[Region.wanted,hg])]
    exact .inl (hrun hi h)
   |some jw=>
    obtain⟨j,want⟩:=jw
    rw[hg]at h
    simp only at h
    obtain⟨pu,ow,he⟩:=hi.env
    split at h
    ·rename_i b hgd
     have hy:=qhx he hgd
     by_cases hb:b=want
     ·rw[if_pos (by simp[Region.wanted,hg,hy,hb])]
      exact .inl (hrun hi (h.1 hb))
     ·have hb':b= !want:=by cases b<;>cases want<;>simp_all
      rw[if_neg (by simp[Region.wanted,hg,hy,hb])]
      obtain⟨h1,h2⟩:=h.2 hb'
      exact qc1 rest _ _ _ _ hNA2 (hi.skip h1) h2
    ·rename_i hgd
     have hy:=qhx he hgd
     rw[if_neg (by simp[Region.wanted,hg,hy])]
     exact qc1 rest _ _ _ _ hNA2 (hi.skip h.1) h.2
    ·exact h.elim
  ·rw[if_pos (by simp[Region.wanted,hg])]
   rcases h with h|h|h|h|h
   ·exact .inl (qlG hi h fun st' a' w' hK hi'=>qc1 rest _ st' a' w' hNA2 hi' hK)
   ·exact .inl (qsn hi h fun st' a' w' hK hi'=>qc1 rest _ st' a' w' hNA2 hi' hK)
   ·exact .inl (qxj hi h fun st' a' w' hK hi'=>qc1 rest _ st' a' w' hNA2 hi' hK)
   ·exact .inl (qlI hi h fun st' a' w' hK hi'=>qc1 rest _ st' a' w' hNA2 hi' hK)
   ·exact .inl (qnZ hi h fun st' a' w' hK hi'=>qc1 rest _ st' a' w' hNA2 hi' hK)
end
def qc2(P:Program)(all:List Oper)(m:Nat):List Oper→List (List Nat)→Nat→St→(X→St→Prop)→Prop
 |[],[],id,st,K=>K .normal {st with nx:=id}
 |o::rest,z::zs,id,st,K=>qan P o.op id o.dst st (qfA fun st'=>qbG P all st' z∧qc2 P all m rest zs (id+32+32*m) st' K)∨
   qdN P o.op o.dst st (qfA fun st'=>qbG P all st' z∧qc2 P all m rest zs (id+32+32*m) st' K)∨
   qeF P o.op o.dst st (qfA fun st'=>qbG P all st' z∧qc2 P all m rest zs (id+32+32*m) st' K)∨
   qgH P o.op o.dst st (qfA fun st'=>qbG P all st' z∧qc2 P all m rest zs (id+32+32*m) st' K)
 |_,_,_,_,_=>False
def qt5(P:Program)(all:List Oper)(m:Nat)(zs:List (List Nat))(st:St)(K:X→St→Prop):Prop:=
 (st.hp.all fun x=>decide (x.1<st.nx))=true∧
 qaK P all (all.take m) st.nx st (qfA fun st'=>qc2 P all m (all.drop m) zs st'.nx st' K)
section
variable {P:Program}{w w0:World}{S:Frm}{all:List Oper}{m id0 n:Nat}{a:Act}{Q:Exit→Act→World→Prop}
theorem qmB{A:Nat→Prop}{E E2:Env}{hp:Hp}{nx:Nat}{K:X→St→Prop}{o:Op}{dst:Option Tmp}(hA:∀s,A s→lkE E2 s=lkE E s)(ho:∀s∈qbY o,A s)(h:qdN P o dst ⟨E,hp,nx,n⟩ K):
  qdN P o dst ⟨E2,hp,nx,n⟩ fun x st2=>∃E',K x ⟨E',st2.hp,st2.nx,st2.n⟩∧(x=.normal→∀s,(A s∨dst=some s)→lkE st2.env s=lkE E' s):=by
 have hρ:∀x∈o.operands,qab E x=qab E2 x:=by
  intro x hx
  cases x with
  |tmp t=>exact(hA t (ho t (List.mem_filterMap.2 ⟨.tmp t,by simpa using hx,rfl⟩))).symm
  |_=>rfl
 have step:∀{d:D} {F F2:Env} {hp':Hp},(∀s,A s→lkE F2 s=lkE F s)→qcp ⟨E,hp,nx,n⟩ dst d F hp' K→
   qcp ⟨E2,hp,nx,n⟩ dst d F2 hp' fun x st2=>∃E',K x ⟨E',st2.hp,st2.nx,st2.n⟩∧(x=.normal→∀s,(A s∨dst=some s)→lkE st2.env s=lkE E' s):=by
  intro d F F2 hp' hF ⟨h1,h2⟩
  refine⟨h1,qdF dst d F,h2,fun _ s hs=>?_⟩
  simp only[qgi]
  split
  ·rfl
  ·rename_i hne
   rcases hs with hs|hs
   ·exact hF s hs
   ·exact(hne hs).elim
 unfold qdN at h ⊢
 split at h
 ·rename_i f args ts
  have hf:=hρ f (by simp[Op.operands,Call.operands])
  have hargs:args.toList.map (qab E)=args.toList.map (qab E2):=qmv fun x hx=>hρ x (by simp[Op.operands,Call.operands,hx])
  dsimp only at h ⊢
  rw[←hf,←hargs]
  split at h
  ·obtain⟨b,blk,args',r,blk',h1,h2,h3,h4,h5,h6⟩:=h
   exact⟨b,blk,args',r,blk',h1,h2,h3,h4,h5,step hA h6⟩
  ·exact h.elim
 ·exact h.elim
theorem qmC{A:Nat→Prop}{E E2:Env}{hp:Hp}{nx:Nat}{K:X→St→Prop}{o:Op}{dst:Option Tmp}(hA:∀s,A s→lkE E2 s=lkE E s)(ho:∀s∈qbY o,A s)(h:qeF P o dst ⟨E,hp,nx,n⟩ K):
  qeF P o dst ⟨E2,hp,nx,n⟩ fun x st2=>∃E',K x ⟨E',st2.hp,st2.nx,st2.n⟩∧(x=.normal→∀s,(A s∨dst=some s)→lkE st2.env s=lkE E' s):=by
 have hρ:∀x∈o.operands,qab E x=qab E2 x:=by
  intro x hx
  cases x with
  |tmp t=>exact(hA t (ho t (List.mem_filterMap.2 ⟨.tmp t,by simpa using hx,rfl⟩))).symm
  |_=>rfl
 have step:∀{d:D} {F F2:Env} {hp':Hp},(∀s,A s→lkE F2 s=lkE F s)→qcp ⟨E,hp,nx,n⟩ dst d F hp' K→
   qcp ⟨E2,hp,nx,n⟩ dst d F2 hp' fun x st2=>∃E',K x ⟨E',st2.hp,st2.nx,st2.n⟩∧(x=.normal→∀s,(A s∨dst=some s)→lkE st2.env s=lkE E' s):=by
  intro d F F2 hp' hF ⟨h1,h2⟩
  refine⟨h1,qdF dst d F,h2,fun _ s hs=>?_⟩
  simp only[qgi]
  split
  ·rfl
  ·rename_i hne
   rcases hs with hs|hs
   ·exact hF s hs
   ·exact(hne hs).elim
 unfold qeF at h ⊢
 split at h
 ·rename_i f args ts
  have hf:=hρ f (by simp[Op.operands,Call.operands])
  have hargs:args.toList.map (qab E)=args.toList.map (qab E2):=qmv fun x hx=>hρ x (by simp[Op.operands,Call.operands,hx])
  dsimp only at h ⊢
  rw[←hf,←hargs]
  split at h
  ·obtain⟨b,blk,args',r,blk',h1,h2,h3,h4,h5,h6⟩:=h
   exact⟨b,blk,args',r,blk',h1,h2,h3,h4,h5,step hA h6⟩
  ·exact h.elim
 ·exact h.elim
theorem qn0{A:Nat→Prop}{E E2:Env}{hp:Hp}{nx:Nat}{K:X→St→Prop}{o:Op}{dst:Option Tmp}(hA:∀s,A s→lkE E2 s=lkE E s)(ho:∀s∈qbY o,A s)(h:qgH P o dst ⟨E,hp,nx,n⟩ K):
  qgH P o dst ⟨E2,hp,nx,n⟩ fun x st2=>∃E',K x ⟨E',st2.hp,st2.nx,st2.n⟩∧(x=.normal→∀s,(A s∨dst=some s)→lkE st2.env s=lkE E' s):=by
 have hρ:∀x∈o.operands,qab E x=qab E2 x:=by
  intro x hx
  cases x with
  |tmp t=>exact(hA t (ho t (List.mem_filterMap.2 ⟨.tmp t,by simpa using hx,rfl⟩))).symm
  |_=>rfl
 have step:∀{d:D} {F F2:Env} {hp':Hp},(∀s,A s→lkE F2 s=lkE F s)→qcp ⟨E,hp,nx,n⟩ dst d F hp' K→
   qcp ⟨E2,hp,nx,n⟩ dst d F2 hp' fun x st2=>∃E',K x ⟨E',st2.hp,st2.nx,st2.n⟩∧(x=.normal→∀s,(A s∨dst=some s)→lkE st2.env s=lkE E' s):=by
  intro d F F2 hp' hF ⟨h1,h2⟩
  refine⟨h1,qdF dst d F,h2,fun _ s hs=>?_⟩
  simp only[qgi]
  split
  ·rfl
  ·rename_i hne
   rcases hs with hs|hs
   ·exact hF s hs
   ·exact(hne hs).elim
 unfold qgH at h ⊢
 split at h
 ·rename_i args ts
  obtain⟨x,y,t,e,b,off,len,m,blk,new,fl,rows,rfl,rfl,h3,h4,h5,h6,h7,h8,h9,h10,h11,h12,h13,h14,h15,h16,h17⟩:=h
  have hx:=hρ x (by simp[Op.operands,Call.operands])
  have hy:=hρ y (by simp[Op.operands,Call.operands])
  dsimp only at h5 h11 h16 ⊢
  rw[hx]at h5
  rw[hy]at h11 h16
  exact⟨x,y,t,e,b,off,len,m,blk,new,fl,rows,rfl,rfl,h3,h4,h5,h6,h7,h8,h9,h10,h11,h12,h13,h14,h15,h16,step hA h17⟩
 ·exact h.elim
def qCc(P:Program)(w0:World)(S:Frm)(all:List Oper)(m:Nat)(K:X→St→Prop)(fuel:Nat):Prop:=∀(k:Nat) (rest:List Oper) (zs:List (List Nat)) (z:List Nat) (listed:Array Bool) (st:St) (id idc:Nat) (E2:Env) (a:Act) (w:World),
  all.drop k=rest→m≤k→k≤all.length→listed.size=all.length→qcg all m (qjm all []) k rest zs=true→(∀i,m≤i→i<k→listed.getD i false=true)→(∀i,k≤i→i<all.length→listed.getD i false=false)→
  (∀i,i<m→listed.getD i false=false→i∈z)→(∀j∈z,∃o,all[j]? =some o∧o.guard=none)→qdg all (fun i=>listed.getD i false)→cnt all.length (fun i=>listed.getD i false)≤fuel→
  qbG P all st z→qc2 P all m rest zs id st K→qbT w0 S idc ⟨E2,st.hp,st.nx,st.n⟩ a w→idc+32*cnt m (fun i=>listed.getD i false)≤id→
  (∀s,(∀j,j<m→listed.getD j false=false→qaL all j≠some s)→lkE E2 s=lkE st.env s)→wpAny P .any all.toArray (qii w0 S K) fuel listed a w
theorem qlJ(hNA:S.free∨∀o∈all,qfb o.op=true)(hback:qeg all 0=true)(hm:m≤all.length){K:X→St→Prop}{fuel:Nat}(ih:qCc P w0 S all m K fuel)(k:Nat)(rest:List Oper)(zs:List (List Nat))(listed:Array Bool)(st:St)(id idc:Nat)(E2:Env)(a:Act)(w:World)
  (hd:all.drop k=rest) (hmk:m≤k) (hs:listed.size=all.length) (hchk:qcg all m (qjm all []) k rest zs=true) (h1:∀i,m≤i→i<k→listed.getD i false=true) (h2:∀i,k≤i→i<all.length→listed.getD i false=false)
  (hcl:qdg all (fun i=>listed.getD i false)) (h:qc2 P all m rest zs id st K) (hi:qbT w0 S idc ⟨E2,st.hp,st.nx,st.n⟩ a w) (hidc:idc≤id)
  (hE:∀s,(∀j,j<m→listed.getD j false=false→qaL all j≠some s)→lkE E2 s=lkE st.env s) (i:Nat) (him:¬i<m) (h3:i<all.length) (h4:listed.getD i false=false) (o:Oper) (ho:all[i]? =some o)
  (h5:∀e∈o.after,Region.binds .any e=true→listed.getD e.on false=true) (hclosed:qdg all (fun j=>(listed.setIfInBounds i true).getD j false)) (hcnt':cnt all.length (fun j=>(listed.setIfInBounds i true).getD j false)≤fuel):
  wpOp P all.toArray (qii w0 S K) i (fun a w=>wpAny P .any all.toArray (qii w0 S K) fuel (listed.setIfInBounds i true) a w) a w:=by
 cases rest with
 |nil=>
  have:=congrArg List.length hd
  simp at this
  have:=h1 i (by omega) (by omega)
  rw[h4]at this
  cases this
 |cons ok rest=>
  cases zs with
  |nil=>exact h.elim
  |cons zk zs=>
   have hklt:k<all.length:=by
    have:=congrArg List.length hd
    simp at this
    omega
   rw[List.drop_eq_getElem_cons hklt]at hd
   injection hd with hd1 hd2
   have hok:all[k]? =some ok:=by rw[List.getElem?_eq_getElem hklt,hd1]
   simp only[qcg,Bool.and_eq_true,List.all_eq_true]at hchk
   obtain⟨⟨⟨c1,c2⟩,c3⟩,c4⟩:=hchk
   have hik:i=k:=by
    rcases Nat.lt_trichotomy i k with hlt|hlt|hlt
    ·have:=h1 i (by omega) hlt;rw[h4]at this;cases this
    ·exact hlt
    ·exfalso
     have bound:∀(rest:List Oper) (zs:List (List Nat)) (k0:Nat),all.drop k0=rest→qcg all m (qjm all []) k0 rest zs=true→k0≤i→∀j,m≤j→j<i→TB all j i:=by
      intro rest
      induction rest with
      |nil=>intro zs k0 hd _ hk0 j _ _;have:=congrArg List.length hd;simp at this;omega
      |cons o1 rest ihr=>
       intro zs k0 hd hc hk0 j hj hji
       cases zs with
       |nil=>simp[qcg]at hc
       |cons z1 zs=>
        simp only[qcg,Bool.and_eq_true,List.all_eq_true]at hc
        obtain⟨⟨⟨e1,_⟩,e3⟩,e4⟩:=hc
        have hlt0:k0<all.length:=by
         have:=congrArg List.length hd
         simp at this
         omega
        rw[List.drop_eq_getElem_cons hlt0]at hd
        injection hd with _ hd2
        by_cases hki:k0=i
        ·subst hki
         rcases qgk (qjx all) e1 hji with h|h
         ·exact h
         ·have:=(qcV (e3 j h)).1;omega
        ·exact ihr zs (k0+1) hd2 e4 (by omega) j hj hji
     have htb:=bound rest zs (k+1) hd2 c4 (by omega) k hmk hlt
     have:=qhz hcl ho h5 htb
     rw[h2 k (Nat.le_refl _) hklt]at this
     cases this
   subst hik
   rw[hok]at ho
   injection ho with ho;subst ho
   have hpend:∀j,j<m→listed.getD j false=false→j∈zk:=fun j hj hlj=>by
    rcases qgk (qjx all) c1 (by omega:j<i)with h|h
    ·have:=qhz hcl hok h5 h;rw[hlj]at this;cases this
    ·exact h
   let A:Nat→Prop:=fun s=>∀j,j<m→listed.getD j false=false→qaL all j≠some s
   have hops:∀s∈qbY ok.op,A s:=fun s hsl j hj hlj hjs=>by
    obtain⟨_,oj,hoj,_,h7,_⟩:=qcV (c3 j (hpend j hj hlj))
    exact(h7 s (by simpa[qaL,hoj]using hjs)).1 hsl
   simp only[qc2]at h
   have key:∀(st2:St) (a':Act) (w':World),(∃E',qfA (fun st'=>qbG P all st' zk∧qc2 P all m rest zs (id+32+32*m) st' K) .normal ⟨E',st2.hp,st2.nx,st2.n⟩∧(X.normal=.normal→∀s,(A s∨ok.dst=some s)→lkE st2.env s=lkE E' s))→qbT w0 S (id+32) st2 a' w'→
     wpAny P .any all.toArray (qii w0 S K) fuel (listed.setIfInBounds i true) a' w':=fun st2 a' w' hK hi'=>by
    obtain⟨E',⟨k1,k2⟩,k5⟩:=hK
    have hst2:∀s,(∀j,j<m→(listed.setIfInBounds i true).getD j false=false→qaL all j≠some s)→lkE st2.env s=lkE E' s:=fun s hs=>by
     refine k5 rfl s (.inl fun j hj hlj hjs=>hs j hj ?_ hjs)
     rw[qas (by omega),if_neg (by omega)];exact hlj
    have hcm:=qt2 m (fun j=>(listed.setIfInBounds i true).getD j false)
    refine ih (i+1) rest zs zk _ ⟨E',st2.hp,st2.nx,st2.n⟩ (id+32+32*m) (id+32) st2.env a' w' hd2 (by omega) (by omega) (by simpa using hs) c4 (fun j hj hjk=>?_) (fun j hj hjl=>?_) (fun j hj hlj=>?_) (fun j hj=>?_) hclosed hcnt' k1 k2 hi' (by omega) hst2
    ·rw[qas (by omega)];split;rfl;exact h1 j hj (by omega)
    ·rw[qas (by omega),if_neg (by omega)];exact h2 j (by omega) hjl
    ·rw[qas (by omega),if_neg (by omega)]at hlj
     exact hpend j hj hlj
    ·obtain⟨_,oj,hoj,hg,_⟩:=qcV (c3 j hj)
     exact⟨oj,hoj,hg⟩
   unfold wpOp
   simp only[List.getElem?_toArray,hok]
   have hg:ok.guard=none:=by simpa using c2
   rw[if_pos (by simp[Region.wanted,hg])]
   rcases h with h|h|h|h
   ·have hrun:=qgl (A:=A) (E:=st.env) (E2:=E2) (hp:=st.hp) (nx:=st.nx) (n:=st.n) (fun s hs=>hE s hs) hops h
    refine .inl (qgX (hNA.imp (fun h=>h) fun h=>h ok (List.mem_of_getElem? hok)) (hi.up (by omega:idc≤id)) hrun key fun d chain w' hK _=>?_)
    obtain⟨E',hx,_⟩:=hK
    exact hx.elim
   ·have hrun:=qmB (A:=A) (E:=st.env) (E2:=E2) (hp:=st.hp) (nx:=st.nx) (n:=st.n) (fun s hs=>hE s hs) hops h
    exact .inl (qlG (hi.up (by omega:idc≤id)) hrun key)
   ·have hrun:=qmC (A:=A) (E:=st.env) (E2:=E2) (hp:=st.hp) (nx:=st.nx) (n:=st.n) (fun s hs=>hE s hs) hops h
    exact .inl (qlI (hi.up (by omega:idc≤id)) hrun key)
   ·have hrun:=qn0 (A:=A) (E:=st.env) (E2:=E2) (hp:=st.hp) (nx:=st.nx) (n:=st.n) (fun s hs=>hE s hs) hops h
    exact .inl (qnZ (hi.up (by omega:idc≤id)) hrun key)
theorem qqJ(hNA:S.free∨∀o∈all,qfb o.op=true)(hback:qeg all 0=true)(hA':∀i,i<m→∃o,all[i]? =some o∧ChkA all m i o)(hm:m≤all.length){K:X→St→Prop}:∀(fuel:Nat),qCc P w0 S all m K fuel:=by
 intro fuel
 have atEnd:∀(k:Nat) (rest:List Oper) (zs:List (List Nat)) (listed:Array Bool) (st:St) (id idc:Nat) (E2:Env) (a:Act) (w:World),all.drop k=rest→m≤k→k≤all.length→(∀i,k≤i→i<all.length→listed.getD i false=false)→
   (∀i,i<all.length→listed.getD i false=true)→qc2 P all m rest zs id st K→qbT w0 S idc ⟨E2,st.hp,st.nx,st.n⟩ a w→idc+32*cnt m (fun i=>listed.getD i false)≤id→
   (∀s,(∀j,j<m→listed.getD j false=false→qaL all j≠some s)→lkE E2 s=lkE st.env s)→qii w0 S K .normal a w:=by
  intro k rest zs listed st id idc E2 a w hd hmk hk h2 hall h hi hidc hE
  have hkl:k=all.length:=by
   rcases Nat.lt_or_ge k all.length with hlt|hge
   ·have:=h2 k (Nat.le_refl _) hlt;rw[hall k hlt]at this;cases this
   ·omega
  have hr:rest=[]:=by rw[←hd,hkl];simp
  subst hr
  cases zs with
  |nil=>
   refine⟨{st with nx:=id},h,qbT.look (qbT.up hi (show idc≤id by omega)) (fun s=>?_) rfl rfl⟩
   exact(hE s fun j hj hlj=>by rw[hall j (by omega)]at hlj;cases hlj).symm
  |cons _ _=>exact h.elim
 induction fuel with
 |zero=>
  intro k rest zs z listed st id idc E2 a w hd hmk hk hs hchk h1 h2 hU hz hcl hcnt hag h hi hidc hE
  have hall:∀i,i<all.length→listed.getD i false=true:=fun i hi=>qgj (n:=all.length) (L:=fun i=>listed.getD i false) (by omega) i hi
  refine⟨List.eq_nil_iff_forall_not_mem.2 fun i hi=>?_,atEnd k rest zs listed st id idc E2 a w hd hmk hk h2 hall h hi hidc hE⟩
  obtain⟨h3,h4,_⟩:=qcD.1 hi
  rw[qeE (by omega),hall i h3]at h4
  cases h4
 |succ fuel ih=>
  intro k rest zs z listed st id idc E2 a w hd hmk hk hs hchk h1 h2 hU hz hcl hcnt hag h hi hidc hE
  refine⟨fun hr=>atEnd k rest zs listed st id idc E2 a w hd hmk hk h2 (qeP hs hback hr) h hi hidc hE,fun i hir=>?_⟩
  obtain⟨h3,h4,o,ho,h5⟩:=qcD.1 hir
  rw[qeE (by omega)]at h4
  have hclosed:qdg all (fun j=>(listed.setIfInBounds i true).getD j false):=by
   intro j oj e hj hoj he hbe
   simp only[qas (listed:=listed) (i:=i) (by omega:i<listed.size)]at hj ⊢
   split
   ·rfl
   ·split at hj
    ·rename_i hji
     subst hji
     rw[ho]at hoj
     injection hoj with hoj;subst hoj
     exact h5 e he hbe
    ·exact hcl j oj e hj hoj he hbe
  have hcnt':cnt all.length (fun j=>(listed.setIfInBounds i true).getD j false)≤fuel:=by
   have:=qfQ (n:=all.length) (L:=fun j=>listed.getD j false) (L':=fun j=>(listed.setIfInBounds i true).getD j false) h3 h4 (by simp only[qas (listed:=listed) (i:=i) (by omega:i<listed.size),if_pos]) (fun j hj=>by simp only[qas (listed:=listed) (i:=i) (by omega:i<listed.size),if_neg hj])
   omega
  have uniq:∀j k s,j<m→k<m→k≠j→qaL all j=some s→qaL all k≠some s:=by
   intro j k s hj hk hkj hjs hks
   obtain⟨oj,hoj,hcj⟩:=hA' j hj
   exact hcj.dst k s hk hkj hks (by simpa[qaL,hoj]using hjs)
  by_cases him:i<m
  ·
   have hiz:=hU i him h4
   have hagi:=qfR hag i hiz
   obtain⟨o',ho',hg⟩:=hz i hiz
   rw[ho]at ho';injection ho' with ho';subst ho'
   unfold qpy at hagi
   rw[ho]at hagi
   simp only at hagi
   obtain⟨o',ho',hca⟩:=hA' i him
   rw[ho]at ho';injection ho' with ho';subst ho'
   have hod:qaL all i=o.dst:=by simp[qaL,ho]
   let A:Nat→Prop:=fun s=>∀j,j<m→listed.getD j false=false→qaL all j≠some s
   have hops:∀s∈qbY o.op,A s:=fun s hsl j hj hlj hjs=>by
    obtain⟨e,he,hbe,hej⟩:=qdI (hca.slot j s hj hjs hsl)
    have:=h5 e he hbe
    rw[hej,hlj]at this
    cases this
   have hrun:=qgl (A:=A) (E:=st.env) (E2:=E2) (hp:=st.hp) (nx:=st.nx) (n:=st.n) (fun s hs=>hE s hs) hops (hagi idc)
   unfold wpOp
   simp only[List.getElem?_toArray,ho]
   rw[if_pos (by simp[Region.wanted,hg])]
   refine .inl (qgX (hNA.imp (fun h=>h) fun h=>h o (List.mem_of_getElem? ho)) hi hrun (fun st2 a' w' hK hi'=>?_) fun d chain w' hK _=>?_)
   ·obtain⟨E',⟨_,k2,k3,k4⟩,k5⟩:=hK
    have hst2:∀s,(∀j,j<m→(listed.setIfInBounds i true).getD j false=false→qaL all j≠some s)→lkE st2.env s=lkE st.env s:=fun s hs=>by
     have hA:A s∨o.dst=some s:=by
      by_cases hds:o.dst=some s
      ·exact .inr hds
      ·left
       intro j hj hlj hjs
       by_cases hji:j=i
       ·subst hji;exact hds (hod▸hjs)
       ·exact hs j hj (by rw[qas (by omega),if_neg hji];exact hlj) hjs
     rw[k5 rfl s hA]
     exact k4 s
    have hc2:cnt m (fun j=>(listed.setIfInBounds i true).getD j false)+1=cnt m (fun j=>listed.getD j false):=qfQ (n:=m) him h4 (by simp only[qas (listed:=listed) (i:=i) (by omega:i<listed.size),if_pos]) (fun j hj=>by simp only[qas (listed:=listed) (i:=i) (by omega:i<listed.size),if_neg hj])
    refine ih k rest zs z _ st id (idc+32) st2.env a' w' hd hmk hk (by simpa using hs) hchk (fun j hj hjk=>?_) (fun j hj hjl=>?_) (fun j hj hlj=>?_) hz hclosed hcnt' hag h (qbT.look hi' (fun s=>rfl) k2.symm k3.symm) (by omega) hst2
    ·rw[qas (by omega)];split;rfl;exact h1 j hj hjk
    ·rw[qas (by omega),if_neg (by omega)];exact h2 j hj hjl
    ·rw[qas (by omega)]at hlj
     split at hlj
     ·cases hlj
     ·exact hU j hj hlj
   ·obtain⟨E',⟨hx,_⟩,_⟩:=hK
    cases hx
  ·exact qlJ hNA hback hm ih k rest zs listed st id idc E2 a w hd hmk hs hchk h1 h2 hcl h hi (by omega) hE i him h3 h4 o ho h5 hclosed hcnt'
theorem qsp(hNA:S.free∨∀o∈all,qfb o.op=true){st:St}{K:X→St→Prop}{zs:List (List Nat)}(hc:qdA all m zs=true)(hi:qbT w0 S st.nx st a w)(h:qt5 P all m zs st K):wpAny P .any all.toArray (qii w0 S K) all.length (Array.replicate all.length false) a w:=by
 unfold qdA at hc
 simp only[Bool.and_eq_true,decide_eq_true_eq,List.all_eq_true,List.mem_range]at hc
 obtain⟨⟨⟨hm,hback⟩,hline⟩,hA⟩:=hc
 have hA':∀i,i<m→∃o,all[i]? =some o∧ChkA all m i o:=fun i hi=>qj8 (hA i hi)
 obtain⟨hdom,h⟩:=h
 simp only[List.all_eq_true,decide_eq_true_eq]at hdom
 have hkind:∀i o,i<m→all[i]? =some o→qgY o.op=true:=fun i o hi ho=>by
  obtain⟨o',ho',hc⟩:=hA' i hi
  rw[ho]at ho';injection ho' with ho';subst ho'
  exact hc.kind
 obtain⟨dv,nb,htr,hK⟩:=qfd (P:=P) (all:=all) (qgc:=st.env) (hp0:=st.hp) (id0:=st.nx) (m:=m) (K:=fun _ st'=>qc2 P all m (all.drop m) zs st'.nx st' K) hm hkind m 0 (fun _=>.undef) (fun _=>[]) st (by omega) rfl rfl rfl
  (fun j o hj=>by omega) (fun j hj=>by omega) (by simpa using h)
 simp only at hK
 have hrange:∀j b,j<m→(lkH (nb j) b).isSome→st.nx+32*j≤b∧b<st.nx+32*j+32:=fun j b hj hb=>by
  obtain⟨o,ho,_⟩:=hA' j hj
  exact qj7 (htr.ran j o hj ho) hb
 have hhp0:∀b,(lkH st.hp b).isSome→b<st.nx:=fun b hb=>by
  obtain⟨x,hx,rfl⟩:=qdz hb
  exact hdom x hx
 have hlt:∀i b,i≤m→(lkH (qcY st.hp nb i) b).isSome→b<st.nx+32*i:=fun i b hi hb=>by
  rcases qfe hb with h|⟨j,hj,h⟩
  ·have:=hhp0 b h;omega
  ·have:=hrange j b (by omega) h;omega
 have hsub1:∀i,i<m→Sub (lkH (qcY st.hp nb i)) (lkH (qcY st.hp nb (i+1))):=fun i hi b blk hb=>by
  have h1:=hlt i b (by omega) (by rw[hb];rfl)
  simp only[qcY,qaO]
  cases hn:lkH (nb i) b with
  |some blk'=>
   have:=hrange i b hi (by rw[hn];rfl)
   omega
  |none=>simpa using hb
 have hsub:∀d i,i+d=m→Sub (lkH (qcY st.hp nb i)) (lkH (qcY st.hp nb m)):=by
  intro d
  induction d with
  |zero=>intro i hi;rw[show i=m by omega];exact fun b blk h=>h
  |succ d ih=>intro i hi b blk hb;exact ih (i+1) (by omega) b blk (hsub1 i (by omega) b blk hb)
 have hnbA:∀i,i<m→∀b blk,lkH (nb i) b=some blk→lkH (qcY st.hp nb m) b=some blk:=fun i hi b blk hb=>
  hsub (m-(i+1)) (i+1) (by omega) b blk (by simp only[qcY,qaO,hb];rfl)
 have hflat:∀i,i<m→∀b blk,lkH (nb i) b=some blk→blk.flat=true→qal blk.rows=true:=fun i hi b blk hb=>by
  obtain⟨o,ho,_⟩:=hA' i hi
  rcases qhy (htr.ran i o hi ho)with h|h
  ·exact qmx h hb
  ·rw[h]at hb;cases hb
 have hran:∀i o,i<m→all[i]? =some o→Ran P all o (st.nx+32*i) (qch all st.env dv i) (lkH (qcY st.hp nb m)) (dv i) (nb i):=fun i o hi ho=>by
  have:=htr.ran i o hi ho
  unfold Ran at this ⊢
  have hmono:= @qjw P (qab (qch all st.env dv i)) (qab (qch all st.env dv i)) _ _ (st.nx+32*i) o.op (dv i) (nb i) (hsub (m-i) i (by omega)) (fun _ _=>rfl)
  split at this
  ·exact hmono this
  ·obtain⟨r,h1,h2⟩:=this
   refine⟨r,h1,?_⟩
   split at h2
   ·rename_i hr;rw[if_pos hr];exact hmono h2
   ·rename_i hr;rw[if_neg hr];exact h2
 have hdisj:∀i,i<m→∀j,j<m→j≠i→∀b,(lkH (nb j) b).isSome→lkH (nb i) b=none:=fun i hi j hj hji b hb=>by
  cases hn:lkH (nb i) b with
  |none=>rfl
  |some blk=>
   have h1:=hrange i b hi (by rw[hn];rfl)
   have h2:=hrange j b hj hb
   omega
 have hbig:∀i,i<m→∀b,st.nx+32*m≤b→lkH (nb i) b=none:=fun i hi b hb=>by
  cases hn:lkH (nb i) b with
  |none=>rfl
  |some blk=>have h1:=hrange i b hi (by rw[hn];rfl);omega
 have uniq:∀j k s,j<m→k<m→k≠j→qaL all j=some s→qaL all k≠some s:=by
  intro j k s hj hk hkj hjs hks
  obtain⟨oj,hoj,hcj⟩:=hA' j hj
  exact hcj.dst k s hk hkj hks (by simpa[qaL,hoj]using hjs)
 have hG0:G w0 S all m st.nx st.n dv nb st.env (lkH (qcY st.hp nb m)) (fun _=>false) a w:=by
  obtain⟨pu,ow,m1,m2,m3,m4,m5,m6,m7⟩:=hi
  refine⟨pu,ow,m1.addPends (fun b blk hb=>hsub m 0 (by omega) b blk hb) (fun b blk hb hb0=>?_),(fun j s _ h=>Bool.noConfusion h),fun s _=>m2 s,m3,m4,fun j b hj _ hb=>m5 b ?_,fun b hb=>m5 b (by omega),m6,m7⟩
  ·rcases qfe (by rw[hb];rfl:(lkH (qcY st.hp nb m) b).isSome)with h|⟨j,hj,h⟩
   ·rw[hb0]at h;cases h
   ·have h1:=hrange j b hj h
    obtain⟨blk',hb'⟩:=Option.isSome_iff_exists.1 h
    have:=hnbA j hj b blk' hb'
    rw[hb]at this
    injection this with this;subst this
    exact⟨m5 b (by omega),hflat j hj b blk hb'⟩
  ·have h1:=hrange j b hj hb;omega
 have stateOf:∀(listed:Array Bool) (a:Act) (w:World),G w0 S all m st.nx st.n dv nb st.env (lkH (qcY st.hp nb m)) (fun i=>listed.getD i false) a w→
   ∃E2,qbT w0 S (st.nx+32*m) ⟨E2,qcY st.hp nb m,st.nx+32*m,st.n⟩ a w∧∀s,(∀j,j<m→listed.getD j false=false→qaL all j≠some s)→lkE E2 s=lkE (qch all st.env dv m) s:=by
  intro listed a w ⟨pu,ow,g1,g2,g3,g4,g5,g6,g7,g8,g9⟩
  let un:List Nat:=(List.range m).filterMap fun j=>if listed.getD j false=false then qaL all j else none
  have hun:∀s,s∈un↔∃j,j<m∧listed.getD j false=false∧qaL all j=some s:=by
   intro s
   simp only[un,List.mem_filterMap,List.mem_range]
   constructor
   ·rintro⟨j,hj,h⟩
    split at h
    ·rename_i hl;exact⟨j,hj,hl,h⟩
    ·cases h
   ·rintro⟨j,hj,hl,h⟩
    exact⟨j,hj,by rw[if_pos hl];exact h⟩
  have hlk:∀(l:List Nat) (E:Env) (s:Nat),lkE (l.map (fun s=>(s,D.undef))++E) s=if s∈l then .undef else lkE E s:=by
   intro l
   induction l with
   |nil=>intro E s;simp
   |cons t l ih=>
    intro E s
    simp only[List.map_cons,List.cons_append,lkE,List.mem_cons]
    by_cases h:s=t
    ·simp[h]
    ·rw[if_neg h,ih];simp[h]
  refine⟨un.map (fun s=>(s,D.undef))++qch all st.env dv m,⟨pu,ow,g1,fun s=>?_,g4,g5,g7,g8,g9⟩,fun s hs=>?_⟩
  ·simp only[hlk]
   split
   ·exact .pure _ _ (.undef _)
   ·rename_i hsu
    by_cases hex:∃j,j<m∧qaL all j=some s
    ·obtain⟨j,hj,hjs⟩:=hex
     rw[qfO hjs hj fun k hk hkj=>uniq j k s hj hk hkj hjs]
     refine g2 j s hj ?_ hjs
     cases hl:listed.getD j false with
     |true=>exact hl
     |false=>exact(hsu ((hun s).2 ⟨j,hj,hl,hjs⟩)).elim
    ·have hno:∀j,j<m→qaL all j≠some s:=fun j hj h=>hex ⟨j,hj,h⟩
     rw[qcN hno]
     exact g3 s hno
  ·rw[hlk,if_neg]
   intro hsu
   obtain⟨j,hj,hl,hjs⟩:=(hun s).1 hsu
   exact hs j hj hl hjs
 have finish:∀(fuel:Nat) (listed:Array Bool) (a:Act) (w:World),listed.size=all.length→cnt all.length (fun i=>listed.getD i false)≤fuel→qdg all (fun i=>listed.getD i false)→(∀i,i<m→listed.getD i false=true)→
   (∀i,m≤i→i<all.length→listed.getD i false=false)→G w0 S all m st.nx st.n dv nb st.env (lkH (qcY st.hp nb m)) (fun i=>listed.getD i false) a w→wpAny P .any all.toArray (qii w0 S K) fuel listed a w:=by
  intro fuel listed a w hs hcnt hcl hall hB hG
  obtain⟨E2,hi2,hE⟩:=stateOf listed a w hG
  have hz:∀n,(∀i,i<n→listed.getD i false=true)→cnt n (fun i=>listed.getD i false)=0:=by
   intro n
   induction n with
   |zero=>intro _;rfl
   |succ n ih=>intro h;simp only[cnt];rw[ih fun i hi=>h i (by omega),if_pos (h n (by omega))]
  exact qqJ hNA hback hA' hm fuel m (all.drop m) zs [] listed _ _ _ E2 a w rfl (Nat.le_refl _) hm hs hline (fun j hj hj'=>by omega) hB (fun j hj hl=>by rw[hall j hj]at hl;cases hl) (fun j hj=>by simp at hj) hcl hcnt trivial hK hi2 (by rw[hz m hall];exact Nat.le_refl _) hE
 suffices H:∀(fuel:Nat) (listed:Array Bool) (a:Act) (w:World),listed.size=all.length→cnt all.length (fun i=>listed.getD i false)≤fuel→qdg all (fun i=>listed.getD i false)→
   (∀i,m≤i→i<all.length→listed.getD i false=false)→G w0 S all m st.nx st.n dv nb st.env (lkH (qcY st.hp nb m)) (fun i=>listed.getD i false) a w→wpAny P .any all.toArray (qii w0 S K) fuel listed a w by
  refine H _ _ a w (by simp) ?_ ?_ ?_ ?_
  ·have:∀n (L:Nat→Bool),cnt n L≤n:=by
    intro n L
    induction n with
    |zero=>simp[cnt]
    |succ n ih=>simp only[cnt];split<;>omega
   exact this _ _
  ·intro i o e h
   simp only[Array.getD_eq_getD_getElem?,Array.getElem?_replicate]at h
   split at h<;>cases h
  ·intro i _ _
   simp only[Array.getD_eq_getD_getElem?,Array.getElem?_replicate]
   split<;>rfl
  ·have:(fun i=>(Array.replicate all.length false).getD i false)=fun _=>false:=by
    funext i
    simp only[Array.getD_eq_getD_getElem?,Array.getElem?_replicate]
    split<;>rfl
   rw[this]
   exact hG0
 intro fuel
 induction fuel with
 |zero=>
  intro listed a w hs hcnt hcl hB hG
  exact finish 0 listed a w hs hcnt hcl (fun i hi=>qgj (n:=all.length) (L:=fun i=>listed.getD i false) (by omega) i (by omega)) hB hG
 |succ fuel ih=>
  intro listed a w hs hcnt hcl hB hG
  by_cases hall:∀i,i<m→listed.getD i false=true
  ·exact finish _ listed a w hs hcnt hcl hall hB hG
  ·refine⟨fun hr=>(hall fun i hi=>qeP hs hback hr i (by omega)).elim,fun i hi=>?_⟩
   obtain⟨h1,h2,o,ho,h3⟩:=qcD.1 hi
   rw[qeE (by omega)]at h2
   have hclosed:qdg all (fun j=>(listed.setIfInBounds i true).getD j false):=by
    intro j oj e hj hoj he hbe
    simp only[qas (listed:=listed) (i:=i) (by omega:i<listed.size)]at hj ⊢
    split
    ·rfl
    ·split at hj
     ·rename_i hji
      subst hji
      rw[ho]at hoj
      injection hoj with hoj;subst hoj
      exact h3 e he hbe
     ·exact hcl j oj e hj hoj he hbe
   have hcnt':cnt all.length (fun j=>(listed.setIfInBounds i true).getD j false)≤fuel:=by
    have:=qfQ (n:=all.length) (L:=fun j=>listed.getD j false) (L':=fun j=>(listed.setIfInBounds i true).getD j false) h1 h2 (by simp only[qas (listed:=listed) (i:=i) (by omega:i<listed.size),if_pos]) (fun j hj=>by simp only[qas (listed:=listed) (i:=i) (by omega:i<listed.size),if_neg hj])
    omega
   by_cases him:i<m
   ·refine qtX (qgc:=st.env) (hp:=lkH (qcY st.hp nb m)) (L:=fun i=>listed.getD i false) hG ho hA' him h2 (fun j hb=>?_) (fun s hno _=>(qcN fun j hj=>hno j (by omega)).symm) (hran i o him ho) (hnbA i him) (hdisj i him) (hbig i him) (htr.dst i him) fun a' w' hG'=>?_
    ·obtain⟨e,he,hbe,rfl⟩:=qdI hb
     exact⟨h3 e he hbe,by have:=qbU hback ho he hbe;omega⟩
    ·have hset:(fun j=>(listed.setIfInBounds i true).getD j false)=fun j=>if j=i then true else listed.getD j false:=funext fun j=>qas (by omega)
     refine ih _ a' w' (by simpa using hs) hcnt' hclosed ?_ ?_
     ·intro j hj hj'
      rw[qas (by omega),if_neg (by omega)]
      exact hB j hj hj'
     ·rw[hset]
      exact hG'
   ·obtain⟨E2,hi2,hE⟩:=stateOf listed a w hG
    exact qlJ hNA hback hm (qqJ hNA hback hA' hm fuel) m (all.drop m) zs listed _ _ _ E2 a w rfl (Nat.le_refl _) hs hline (fun j hj hj'=>by omega) hB hcl hK hi2 (Nat.le_refl _) hE i him h1 h2 o ho h3 hclosed hcnt'
end
def qck(st st':St):Prop:=∀(w0:World) (S:Frm) (a:Act) (w:World),S.free→qbT w0 S st.nx st a w→qbT w0 S st'.nx st' a w
def qn1(f:St→Prop)(K:X→St→Prop):X→St→Prop
 |.normal,st=>f st
 |x,st=>K x st
def qdR(id:Nat)(K:X→St→Prop):X→St→Prop
 |.exit id',st=>if id'=id then K .normal st else K (.exit id') st
 |x,st=>K x st
def qc3:Code→Bool
 |.region _ ops _=>ops.toList.all fun o=>qfb o.op
 |.seq a b=>qc3 a&&qc3 b
 |.cond _ a b=>qc3 a&&qc3 b
 |.block _ c=>qc3 c
 |.loop c=>qc3 c
 |.scope c=>qc3 c
 |_=>true
def qn2(E:St→St→Prop)(P:Program)(all:List Oper):List Oper→Nat→St→(X→St→Prop)→Prop
 |[],_,_,_=>False
 |o::rest,id,st,K=>(o.guard=none∧qan P o.op id o.dst st fun x st'=>match x with
   |.normal=>qn2 E P all rest (id+32) st' K
   |x=>K x st')∨∃s1,E {st with nx:=id} s1∧qaK P all (o::rest) s1.nx s1 K
def evG(E:St→St→Prop)(P:Program):Code→(X→St→Prop)→St→Prop
 |.skip,K,st=>K .normal st
 |.label _,K,st=>K .normal st
 |.region _ ops false,K,st=>qaK P ops.toList ops.toList st.nx st K∨qbL P ops.toList ops.toList st.nx st K∨qn2 E P ops.toList ops.toList st.nx st K
 |.region _ ops true,K,st=>(∃m,qfN ops.toList m=true∧qy1 P ops.toList m st K)∨(∃m zs,qdA ops.toList m zs=true∧qt0 P ops.toList m zs st K)∨
   ∃m zs,qdA ops.toList m zs=true∧qt5 P ops.toList m zs st K
 |.seq a b,K,st=>evG E P a (qn1 (evG E P b K) K) st∨∃s1,evG E P a (qn1 (fun st'=>E st' s1) K) st∧evG E P b K s1
 |.cond c a b,K,st=>∃t,qab st.env c=.bool t∧(t=true→evG E P a K st)∧(t=false→evG E P b K st)
 |.block id c,K,st=>evG E P c (qdR id K) st
 |.loop c,K,st=>∃(I:Nat→St→Prop) (n:Nat),(∃s,E st s∧I n s)∧∀n s,I n s→evG E P c (qn1 (fun st'=>∃n' s',n'<n∧E st' s'∧I n' s') K) s
 |.exit id,K,st=>K (.exit id) st
 |.ret,K,st=>K .ret st
 |.scope c,K,st=>evG E P c K st
 |_,_,_=>False
abbrev ev(P:Program)(c:Code)(K:X→St→Prop)(st:St):Prop:=evG qck P c K st
section
variable {P:Program}{w w' w0:World}{S:Frm}{a:Act}
theorem qbT.heap{id:Nat}{st:St}(hi:qbT w0 S id st a w)(hh:w'.heap=w.heap)(hb:Below w0.heap.size w0 w→Below w0.heap.size w0 w'):qbT w0 S id st a w':=by
 obtain⟨pu,ow,m1,m2,m3,m4,m5,m6,m7⟩:=hi
 have he:Ext w pu ow w' pu ow:=⟨fun g hg=>⟨hg,by rw[hh]⟩,fun _=>.inr (.inl rfl)⟩
 exact⟨pu,ow,⟨fun b blk hb=>(m1.blk b blk hb).mono he fun g _=>by rw[hh],m1.none,m1.injO,m1.ownO,fun g hg=>by rw[hh];exact m1.zone g hg⟩,m2.mono he,hb m3,m4,m5,m6,m7.1,m7.2.step he fun _=>.inr rfl⟩
theorem qka{c:Code}{Q:Exit→Act→World→Prop}:∀{n:Nat} {a:Act} {w:World},Code.rounds P c Q n a w→Code.rounds P c Q (n+1) a w
 |0,_,_,h=>h.elim
 |n+1,a,w,h=>wp_mono h fun e a w he=>by
  cases e<;>first|exact qka he|exact he
theorem qt6{c:Code}{Q:Exit→Act→World→Prop}{n k:Nat}(hk:n≤k){a:Act}{w:World}(h:Code.rounds P c Q n a w):Code.rounds P c Q k a w:=by
 induction hk with
 |refl=>exact h
 |step _ ih=>exact qka ih
theorem qn3{E:St→St→Prop}(hE:∀(s s':St) (a:Act) (w:World),E s s'→qbT w0 S s.nx s a w→qbT w0 S s'.nx s' a w){all:List Oper}{K:X→St→Prop}:∀(l:List Oper) (id:Nat) (st:St) (a:Act) (w:World),(S.free∨∀o∈l,qfb o.op=true)→qbT w0 S id st a w→qn2 E P all l id st K→wpList P all.toArray (qii w0 S K) l a w
 |[],_,_,_,_,_,_,h=>h.elim
 |o::rest,id,st,a,w,hNA,hi,h=>by
  have hNA1:S.free∨qfb o.op=true:=hNA.imp (fun h=>h) fun h=>h o (by simp)
  have hNA2:S.free∨∀o∈rest,qfb o.op=true:=hNA.imp (fun h=>h) fun h o ho=>h o (by simp[ho])
  rcases h with⟨hg,h⟩|⟨s1,h1,h⟩
  ·unfold wpList
   rw[if_pos (by simp[Region.wanted,hg])]
   exact .inl (qgX hNA1 hi h (fun st' a' w' hK hi'=>qn3 hE rest _ st' a' w' hNA2 hi' hK) fun d chain w' hK hp=>⟨d,st,hK,hi.defers,hp⟩)
  ·exact qgh (o::rest) _ s1 a w hNA (hE _ s1 a w h1 hi) h
theorem qqK{E:St→St→Prop}(hmix:P.follows .mixedOrders=true)(hE:∀(s s':St) (a:Act) (w:World),E s s'→qbT w0 S s.nx s a w→qbT w0 S s'.nx s' a w):∀(c:Code) (K:X→St→Prop) (st:St) (a:Act) (w:World),(S.free∨qc3 c=true)→qbT w0 S st.nx st a w→evG E P c K st→c.wp P (qii w0 S K) a w:=by
 intro c
 induction c with
 |skip=>exact fun K st a w _ hi h=>wp_skip ⟨st,h,hi⟩
 |label l=>exact fun K st a w _ hi h=>wp_label ⟨st,h,hi⟩
 |region id ops draw=>
  intro K st a w hNA hi h
  have hNA':S.free∨∀o∈ops.toList,qfb o.op=true:=hNA.imp (fun h=>h) fun h=>List.all_eq_true.1 h
  cases draw with
  |false=>
   refine wp_region_list ?_
   have:=h.elim (qgh (all:=ops.toList) ops.toList st.nx st a w hNA' hi) (Or.elim · (qc1 (all:=ops.toList) ops.toList st.nx st a w hNA' hi) (qn3 hE (all:=ops.toList) ops.toList st.nx st a w hNA' hi))
   simpa using this
  |true=>
   refine wp_region_any hmix ?_
   have hi':qbT w0 S st.nx st a {w with drawn:=w.drawn+1}:=hi.heap rfl fun hb=>⟨hb.os,hb.tape,hb.output,hb.size,hb.block,hb.drawn.step rfl⟩
   rcases h with⟨m,hc,h⟩|⟨m,zs,hc,h⟩|⟨m,zs,hc,h⟩
   ·have:=qtY (all:=ops.toList) hNA' hc hi' h
    simpa using this
   ·have:=qsl (all:=ops.toList) hNA' hc hi' h
    simpa using this
   ·have:=qsp (all:=ops.toList) hNA' hc hi' h
    simpa using this
 |seq x y ihx ihy=>
  intro K st a w hNA hi h
  have hN1:S.free∨qc3 x=true:=hNA.imp (fun h=>h) fun h=>by simp only[qc3,Bool.and_eq_true]at h;exact h.1
  have hN2:S.free∨qc3 y=true:=hNA.imp (fun h=>h) fun h=>by simp only[qc3,Bool.and_eq_true]at h;exact h.2
  rcases h with h|⟨s1,h,h1⟩
  ·refine wp_seq (wp_mono (ihx _ st a w hN1 hi h) fun e a w he=>?_)
   cases e with
   |normal=>obtain⟨st',h',hi'⟩:=he;exact ihy K st' a w hN2 hi' h'
   |_=>exact he
  ·refine wp_seq (wp_mono (ihx _ st a w hN1 hi h) fun e a w he=>?_)
   cases e with
   |normal=>obtain⟨st',h',hi'⟩:=he;exact ihy K s1 a w hN2 (hE _ _ _ _ h' hi') h1
   |_=>exact he
 |cond c x y ihx ihy=>
  intro K st a w hNA hi h
  have hN1:S.free∨qc3 x=true:=hNA.imp (fun h=>h) fun h=>by simp only[qc3,Bool.and_eq_true]at h;exact h.1
  have hN2:S.free∨qc3 y=true:=hNA.imp (fun h=>h) fun h=>by simp only[qc3,Bool.and_eq_true]at h;exact h.2
  obtain⟨t,hc,h1,h2⟩:=h
  obtain⟨pu,ow,he⟩:=hi.env
  have hv:=he.eval c
  rw[hc]at hv
  exact wp_cond_split hv.bool_inv (fun ht=>ihx K st a w hN1 hi (h1 ht)) fun ht=>ihy K st a w hN2 hi (h2 ht)
 |block id c ih=>
  intro K st a w hNA hi h
  refine wp_block (wp_mono (ih _ st a w hNA hi h) fun e a w he=>?_)
  cases e with
  |exit id'=>
   obtain⟨st',h',hi'⟩:=he
   simp only[qdR]at h'
   simp only[Exit.inBlock]
   split at h'
   ·rename_i hid;rw[if_pos hid];exact⟨st',h',hi'⟩
   ·rename_i hid;rw[if_neg hid];exact⟨st',h',hi'⟩
  |_=>exact he
 |loop c ih=>
  intro K st a w hNA hi h
  obtain⟨I,n,⟨s,hes,hI⟩,hround⟩:=h
  refine wp_loop_rounds (n+1) ?_
  have key:∀n s a w,I n s→qbT w0 S s.nx s a w→Code.rounds P c (qii w0 S K) (n+1) a w:=by
   intro n
   induction n using Nat.strongRecOn with
   |ind n ihn=>
    intro s a w hI hi
    rw[rounds_succ]
    refine wp_mono (ih _ s a w hNA hi (hround n s hI)) fun e a w he=>?_
    cases e with
    |normal=>
     obtain⟨st',⟨n',s',hlt,hes,hI'⟩,hi'⟩:=he
     exact qt6 (by omega) (ihn n' hlt s' a w hI' (hE _ _ _ _ hes hi'))
    |_=>exact he
  exact key n s a w hI (hE _ _ _ _ hes hi)
 |exit id=>exact fun K st a w _ hi h=>wp_exit ⟨st,h,hi⟩
 |ret=>exact fun K st a w _ hi h=>wp_ret ⟨st,h,hi⟩
 |scope c ih=>
  intro K st a w hNA hi h
  refine wp_scope_straight (wp_mono (ih K st a w hNA hi h) fun e a w he=>?_)
  cases e with
  |goto l=>exact he.elim
  |_=>exact he
 |_=>exact fun K st a w _ hi h=>h.elim
theorem qCd(hmix:P.follows .mixedOrders=true)(c:Code)(K:X→St→Prop)(st:St)(a:Act)(w:World)(hS:S.free)(hi:qbT w0 S st.nx st a w)(h:ev P c K st):c.wp P (qii w0 S K) a w:=
 qqK hmix (fun _ _ _ _ he hi=>he _ _ _ _ hS hi) c K st a w (.inl hS) hi h
end
abbrev Sg:=List (Nat×Nat)
def lkS:Sg→Nat→Option Nat
 |[],_=>none
 |(a,b)::r,x=>if x=a then some b else lkS r x
def lkI:Sg→Nat→Option Nat
 |[],_=>none
 |(a,b)::r,y=>if y=b then some a else lkI r y
mutual
def ren(g:Sg):D→D
 |.os b off len=>match lkS g b with
  |some b'=>.os b' off len
  |none=>.undef
 |.op b row off=>match lkS g b with
  |some b'=>.op b' row off
  |none=>.undef
 |.om b=>match lkS g b with
  |some b'=>.om b'
  |none=>.undef
 |.agg cs=>.agg (qgI g cs)
 |.tup cs=>.tup (qgI g cs)
 |.clo fn xs ys=>.clo fn (qgI g xs) (qgI g ys)
 |.iface t d=>.iface t (ren g d)
 |d=>d
def qgI(g:Sg):List D→List D
 |[]=>[]
 |d::ds=>ren g d::qgI g ds
end
def qDP(g:Sg)(blk:Blk):Blk:=if blk.flat then blk else⟨blk.k,false,blk.rows.map (qgI g)⟩
def qkb(g:Sg)(hp:Hp):Sg→Hp
 |[]=>[]
 |(b,b')::r=>match lkH hp b with
  |some blk=>(b',qDP g blk)::qkb g hp r
  |none=>qkb g hp r
def qy2(g:Sg)(env:Env)(ks:List Nat):Env:=ks.map fun s=>(s,ren g (lkE env s))
def qCe(ns:Sg):Env:=ns.map fun(s,b)=>(s,.os b 0 0)
def qCf(k:Nat)(ns:Sg):Hp:=ns.map fun(_,b)=>(b,⟨k,true,[]⟩)
def qsq(g ns:Sg)(k:Nat)(ks:List Nat)(nx:Nat)(st:St):St:=
 ⟨qCe ns++qy2 g st.env ks,qCf k ns++qkb g st.hp g,nx,st.n⟩
def qEX(g ns:Sg)(nx:Nat):Bool:=
 decide (g.map (·.1)).Nodup&&decide ((g++ns).map (·.2)).Nodup&&(g++ns).all fun x=>decide (x.2<nx)
section
variable {P:Program}{w w' w0:World}{pu:Nat→Prop}{ow ow':Nat→Ow}{base:Nat}{g:Sg}
theorem qt7:∀{g:Sg} {a b:Nat},lkS g a=some b→(a,b)∈g
 |(x,y)::r,a,b,h=>by
  simp only[lkS]at h
  split at h
  ·rename_i he;injection h with h;subst h he;simp
  ·simp[qt7 h]
theorem qpD:∀{g:Sg} {a b:Nat},lkI g b=some a→(a,b)∈g
 |(x,y)::r,a,b,h=>by
  simp only[lkI]at h
  split at h
  ·rename_i he;injection h with h;subst h he;simp
  ·simp[qpD h]
theorem qlK:∀{g:Sg} {a b:Nat},(g.map (·.2)).Nodup→(a,b)∈g→lkI g b=some a
 |(x,y)::r,a,b,hn,h=>by
  simp only[List.map_cons,List.nodup_cons]at hn
  simp only[lkI]
  rcases List.mem_cons.1 h with h'|h'
  ·injection h' with h1 h2;subst h1 h2;simp
  ·rw[if_neg]
   ·exact qlK hn.2 h'
   ·rintro rfl
    exact hn.1 (List.mem_map.2 ⟨(a,b),h',rfl⟩)
theorem qt8:∀{g:Sg} {a b c:Nat},(g.map (·.1)).Nodup→(a,b)∈g→(a,c)∈g→b=c
 |(x,y)::r,a,b,c,hn,h1,h2=>by
  simp only[List.map_cons,List.nodup_cons]at hn
  rcases List.mem_cons.1 h1 with g1|g1<;>rcases List.mem_cons.1 h2 with g2|g2
  ·injection g1 with e1 e2;injection g2 with e3 e4;rw[e2,e4]
  ·injection g1 with e1 e2;subst e1;exact(hn.1 (List.mem_map.2 ⟨(a,c),g2,rfl⟩)).elim
  ·injection g2 with e1 e2;subst e1;exact(hn.1 (List.mem_map.2 ⟨(a,b),g1,rfl⟩)).elim
  ·exact qt8 hn.2 g1 g2
theorem qdB:∀{ds:List D} {i:Nat} {d:D},(qgI g ds)[i]? =some d→∃e,ds[i]? =some e∧d=ren g e
 |[],i,d,h=>by simp[qgI]at h
 |e::ds,0,d,h=>by simp[qgI]at h;exact⟨e,rfl,h.symm⟩
 |e::ds,i+1,d,h=>by
  simp only[qgI,List.getElem?_cons_succ]at h ⊢
  exact qdB h
theorem qbC:∀(ds:List D),(qgI g ds).length=ds.length
 |[]=>rfl
 |_::ds=>by simp[qgI,qbC ds]
theorem RepP.ren{v:Value}{d:D}(h:RepP w pu v d):RepP w pu v (ren g d):=by
 induction h with
 |undef v=>exact .undef v
 |skip=>exact .skip
 |int k n=>exact .int k n
 |bool b=>exact .bool b
 |str s=>exact .str s
 |float k n=>exact .float k n
 |agg vs cs hl _ ih=>
  refine .agg vs _ (by rw[qbC];exact hl) fun i v d h1 h2=>?_
  obtain⟨e,he,rfl⟩:=qdB h2
  exact ih i v e h1 he
 |tup vs cs hl _ ih=>
  refine .tup vs _ (by rw[qbC];exact hl) fun i v d h1 h2=>?_
  obtain⟨e,he,rfl⟩:=qdB h2
  exact ih i v e h1 he
 |sl a cap rows k f hc hk hm h _=>exact .sl a cap rows k f hc hk hm h
 |ptr b off cs f hb hm h _=>exact .ptr b off cs f hb hm h
 |nilptr=>exact .nilptr
 |clo fn xs ys cs ds hx _ hy _ ih ih'=>
  refine .clo fn xs ys _ _ (by rw[qbC];exact hx) (fun i v d h1 h2=>?_) (by rw[qbC];exact hy) fun i v d h1 h2=>?_
  ·obtain⟨e,he,rfl⟩:=qdB h2
   exact ih i v e h1 he
  ·obtain⟨e,he,rfl⟩:=qdB h2
   exact ih' i v e h1 he
 |nilfunc=>exact .nilfunc
 |iface t v d _ ih=>exact .iface t v _ ih
 |nilif=>exact .nilif
theorem Rep.ren(hg:∀b b',lkS g b=some b'→ow' b'=ow b){v:Value}{d:D}(h:Rep w pu ow v d):Rep w pu ow' v (ren g d):=by
 induction h with
 |pure v d h=>exact .pure _ _ h.ren
 |agg vs cs hl _ ih=>
  refine .agg vs _ (by rw[qbC];exact hl) fun i v d h1 h2=>?_
  obtain⟨e,he,rfl⟩:=qdB h2
  exact ih i v e h1 he
 |tup vs cs hl _ ih=>
  refine .tup vs _ (by rw[qbC];exact hl) fun i v d h1 h2=>?_
  obtain⟨e,he,rfl⟩:=qdB h2
  exact ih i v e h1 he
 |clo fn xs ys cs ds hx _ hy _ ih ih'=>
  refine .clo fn xs ys _ _ (by rw[qbC];exact hx) (fun i v d h1 h2=>?_) (by rw[qbC];exact hy) fun i v d h1 h2=>?_
  ·obtain⟨e,he,rfl⟩:=qdB h2
   exact ih i v e h1 he
  ·obtain⟨e,he,rfl⟩:=qdB h2
   exact ih' i v e h1 he
 |iface t v d _ ih=>exact .iface t v _ ih
 |nilsl=>exact .nilsl
 |osd a n c b off len hb=>
  simp only[Go.Pv.ren]
  split
  ·rename_i b' h';exact .osd a n c b' off len ((hg b b' h').trans hb)
  ·exact .pure _ _ (.undef _)
 |ose a b off hb=>
  simp only[Go.Pv.ren]
  split
  ·rename_i b' h';exact .ose a b' off ((hg b b' h').trans hb)
  ·exact .pure _ _ (.undef _)
 |osa a cap b off len g o k sz hb hl hm=>
  simp only[Go.Pv.ren]
  split
  ·rename_i b' h';exact .osa a cap b' off len g o k sz ((hg b b' h').trans hb) hl hm
  ·exact .pure _ _ (.undef _)
 |opd a b row off hb=>
  simp only[Go.Pv.ren]
  split
  ·rename_i b' h';exact .opd a b' row off ((hg b b' h').trans hb)
  ·exact .pure _ _ (.undef _)
 |opa b row off g o k sz hb=>
  simp only[Go.Pv.ren]
  split
  ·rename_i b' h';exact .opa b' row off g o k sz ((hg b b' h').trans hb)
  ·exact .pure _ _ (.undef _)
 |omd r b hb=>
  simp only[Go.Pv.ren]
  split
  ·rename_i b' h';exact .omd r b' ((hg b b' h').trans hb)
  ·exact .pure _ _ (.undef _)
 |oma b g hb=>
  simp only[Go.Pv.ren]
  split
  ·rename_i b' h';exact .oma b' g ((hg b b' h').trans hb)
  ·exact .pure _ _ (.undef _)
theorem qsr{rows:List (List D)}{i j:Nat}{d:D}(h:qar (rows.map (qgI g)) i j=some d):∃e,qar rows i j=some e∧d=Go.Pv.ren g e:=by
 unfold qar at h ⊢
 rw[List.getElem?_map]at h
 cases hr:rows[i]? with
 |none=>rw[hr]at h;simp at h
 |some r=>
  rw[hr]at h
  simp only[Option.map_some,Option.bind_some]at h
  obtain⟨e,he,rfl⟩:=qdB h
  exact⟨e,by simpa using he,rfl⟩
theorem qbP.ren{o:Ow}{blk:Blk}(hg:∀b b',lkS g b=some b'→ow' b'=ow b)(h:qbP w pu ow o blk):qbP w pu ow' o (qDP g blk):=by
 obtain⟨hf,h⟩:=h
 unfold qDP
 split
 ·rename_i hfl
  refine⟨hf,?_⟩
  cases o with
  |dead=>exact h
  |pending=>exact h
  |empty=>exact h
  |lies y a k sz=>
   obtain⟨h1,h2,h3,h4,c,t,h5,h6,h7⟩:=h
   refine⟨h1,h2,h3,h4,c,t,h5,h6,fun i j d hd=>?_⟩
   obtain⟨v,hv,hr⟩:=h7 i j d hd
   exact⟨v,hv,.pure _ _ (qhv hr (qfJ (hf hfl) hd))⟩
  |mp y=>exact h
 ·refine⟨fun h=>Bool.noConfusion h,?_⟩
  cases o with
  |dead=>exact h
  |pending=>exact h
  |empty=>simpa using h
  |lies y a k sz=>
   obtain⟨h1,h2,h3,h4,c,t,h5,h6,h7⟩:=h
   refine⟨h1,h2,fun r hr=>?_,by simpa using h4,c,t,h5,h6,fun i j d hd=>?_⟩
   ·obtain⟨r',hr',rfl⟩:=List.mem_map.1 hr
    rw[qbC];exact h3 r' hr'
   ·obtain⟨e,he,rfl⟩:=qsr hd
    obtain⟨v,hv,hr⟩:=h7 i j e he
    exact⟨v,hv,hr.ren hg⟩
  |mp y=>rename_i hfl;exact(hfl h.1.1).elim
theorem qiu{hp:Hp}:∀{r:Sg} {b':Nat} {blk':Blk},lkH (qkb g hp r) b'=some blk'→∃b blk,(b,b')∈r∧lkH hp b=some blk∧blk'=qDP g blk
 |(x,y)::r,b',blk',h=>by
  simp only[qkb]at h
  split at h
  ·rename_i blk hb
   simp only[lkH]at h
   split at h
   ·rename_i he
    injection h with h
    exact⟨x,blk,by simp[he],hb,h.symm⟩
   ·obtain⟨b,blk2,h1,h2,h3⟩:=qiu h
    exact⟨b,blk2,by simp[h1],h2,h3⟩
  ·obtain⟨b,blk2,h1,h2,h3⟩:=qiu h
   exact⟨b,blk2,by simp[h1],h2,h3⟩
theorem qgZ{hp:Hp}{a b':Nat}(h:lkH hp a≠none):∀{r:Sg},(a,b')∈r→lkH (qkb g hp r) b'≠none
 |(x,y)::r,hm=>by
  simp only[qkb]
  rcases List.mem_cons.1 hm with he|hm
  ·injection he with h1 h2
   subst h1 h2
   split
   ·simp[lkH]
   ·rename_i hn;exact(h hn).elim
  ·split
   ·simp only[lkH]
    split
    ·simp
    ·exact qgZ h hm
   ·exact qgZ h hm
theorem qiv(e1 e2:Env)(s:Nat):lkE (e1++e2) s=if s∈e1.map (·.1)then lkE e1 s else lkE e2 s:=by
 induction e1 with
 |nil=>simp
 |cons x e1 ih=>
  obtain⟨k,d⟩:=x
  simp only[List.cons_append,lkE,List.map_cons,List.mem_cons,ih]
  by_cases h:s=k
  ·simp[h]
  ·simp only[h,false_or,if_false]
theorem qqL:∀{ns:Sg} {s:Nat},s∈(qCe ns).map (·.1)→∃b,(s,b)∈ns∧lkE (qCe ns) s=.os b 0 0
 |(k,b)::ns,s,h=>by
  simp only[qCe,List.map_cons,List.mem_cons,lkE]at h ⊢
  by_cases he:s=k
  ·exact⟨b,.inl (by rw[he]),by rw[if_pos he]⟩
  ·rw[if_neg he]
   obtain⟨c,h1,h2⟩:=qqL (ns:=ns) (s:=s) (by simpa[qCe,he]using h)
   exact⟨c,.inr h1,h2⟩
theorem qqM{k:Nat}:∀{ns:Sg} {b:Nat} {blk:Blk},lkH (qCf k ns) b=some blk→blk=⟨k,true,[]⟩∧∃s,(s,b)∈ns
 |(s,c)::ns,b,blk,h=>by
  simp only[qCf,List.map_cons,lkH]at h
  split at h
  ·rename_i he;injection h with h;exact⟨h.symm,s,by simp[he]⟩
  ·obtain⟨h1,s',h2⟩:=qqM (ns:=ns) h
   exact⟨h1,s',by simp[h2]⟩
theorem qhA{k:Nat}:∀{ns:Sg} {b s:Nat},(s,b)∈ns→lkH (qCf k ns) b≠none
 |(s',c)::ns,b,s,h=>by
  simp only[qCf,List.map_cons,lkH]
  split
  ·simp
  ·rename_i hne
   rcases List.mem_cons.1 h with h|h
   ·injection h with h1 h2;exact(hne h2).elim
   ·exact qhA h
theorem qmD{ns:Sg}{k nx:Nat}{ks:List Nat}{st:St}(ho:qEX g ns nx=true)(hn:∀x∈ns,lkE st.env x.1=.nilsl):qck st (qsq g ns k ks nx st):=by
 unfold qEX at ho
 simp only[Bool.and_eq_true,decide_eq_true_eq,List.all_eq_true]at ho
 obtain⟨⟨hd1,hd2⟩,hlt⟩:=ho
 have hd2':(g.map (·.2)).Nodup:=by
  rw[List.map_append]at hd2
  exact(List.nodup_append.1 hd2).1
 have hdis:∀a s b,(a,b)∈g→(s,b)∈ns→False:=fun a s b h1 h2=>by
  rw[List.map_append]at hd2
  exact(List.nodup_append.1 hd2).2.2 b (List.mem_map.2 ⟨_,h1,rfl⟩) b (List.mem_map.2 ⟨_,h2,rfl⟩) rfl
 intro w0 S a w hF ⟨pu,ow,m1,m2,m3,m4,m5,m6,m7⟩
 let ow':Nat→Ow:=fun b'=>match lkI g b' with
  |some b=>ow b
  |none=>if b'∈ns.map (·.2)then .empty else .pending
 have h1:∀b b',(b,b')∈g→ow' b'=ow b:=fun b b' h=>by simp only[ow',qlK hd2' h]
 have hg:∀b b',lkS g b=some b'→ow' b'=ow b:=fun b b' h=>h1 b b' (qt7 h)
 have h2:∀s b',(s,b')∈ns→ow' b'=.empty:=fun s b' h=>by
  have:lkI g b'=none:=by
   cases hl:lkI g b' with
   |none=>rfl
   |some b=>exact(hdis b s b' (qpD hl) h).elim
  simp only[ow',this]
  rw[if_pos (List.mem_map.2 ⟨_,h,rfl⟩)]
 have h3:∀b',(∀b,(b,b')∉g)→(∀s,(s,b')∉ns)→ow' b'=.pending:=fun b' hg hs=>by
  have:lkI g b'=none:=by
   cases hl:lkI g b' with
   |none=>rfl
   |some b=>exact(hg b (qpD hl)).elim
  simp only[ow',this]
  rw[if_neg]
  rintro hm
  obtain⟨⟨s,b⟩,hm',rfl⟩:=List.mem_map.1 hm
  exact hs s hm'
 have hcase:∀b' y,(ow' b').on y→∃b,(b,b')∈g∧(ow b).on y:=fun b' y h=>by
  by_cases hgx:∃b,(b,b')∈g
  ·obtain⟨b,hb⟩:=hgx
   exact⟨b,hb,by rw[←h1 b b' hb];exact h⟩
  ·by_cases hsx:∃s,(s,b')∈ns
   ·obtain⟨s,hs⟩:=hsx
    rw[h2 s b' hs]at h;exact h.elim
   ·rw[h3 b' (fun b hb=>hgx ⟨b,hb⟩) (fun s hs=>hsx ⟨s,hs⟩)]at h;exact h.elim
 refine⟨pu,ow',⟨fun b' blk' hb=>?_,fun b' hb=>?_,fun b1 b2 y e1 e2=>?_,fun b' y e=>?_,m1.zone⟩,fun s=>?_,m3,m4,fun b' hb=>?_,m6,m7.1,m7.2.1,fun b=>.inl (hF b)⟩
 ·simp only[qsq,qaO,Option.or_eq_some_iff]at hb
  rcases hb with hb|⟨_,hb⟩
  ·obtain⟨rfl,s,hs⟩:=qqM hb
   rw[h2 s b' hs]
   exact⟨fun _=>rfl,rfl⟩
  ·obtain⟨b,blk,hm,hb2,rfl⟩:=qiu hb
   rw[h1 b b' hm]
   exact(m1.blk b blk hb2).ren hg
 ·simp only[qsq,qaO,Option.or_eq_none_iff]at hb
  by_cases hgx:∃b,(b,b')∈g
  ·obtain⟨b,hm⟩:=hgx
   rw[h1 b b' hm]
   refine m1.none b ?_
   cases hl:lkH st.hp b with
   |none=>rfl
   |some blk=>exact(qgZ (by rw[hl];simp) hm hb.2).elim
  ·by_cases hsx:∃s,(s,b')∈ns
   ·obtain⟨s,hs⟩:=hsx
    exact(qhA hs hb.1).elim
   ·exact .inr (h3 b' (fun b hb=>hgx ⟨b,hb⟩) (fun s hs=>hsx ⟨s,hs⟩))
 ·obtain⟨c1,hc1,f1⟩:=hcase b1 _ e1
  obtain⟨c2,hc2,f2⟩:=hcase b2 _ e2
  have:=m1.injO c1 c2 _ f1 f2
  subst this
  exact qt8 hd1 hc1 hc2
 ·obtain⟨c,hc,f⟩:=hcase b' _ e
  exact m1.ownO c _ f
 ·simp only[qsq]
  rw[qiv]
  split
  ·rename_i hs
   obtain⟨b,hb,he⟩:=qqL hs
   rw[he]
   have:=m2 s
   rw[hn (s,b) hb]at this
   have hv:a.tmps.getD s undef=.slice none 0 0:=by
    generalize a.tmps.getD s undef=v at this
    cases this with
    |pure _ _ h=>cases h
    |nilsl=>rfl
   rw[hv]
   exact .ose none b 0 (h2 s b hb)
  ·unfold qy2
   rw[qfP (fun s=>Go.Pv.ren g (lkE st.env s))]
   split
   ·exact(m2 s).ren hg
   ·exact .pure _ _ (.undef _)
 ·simp only[qsq]at hb
  refine h3 b' (fun b hm=>?_) fun s hm=>?_
  ·have:=hlt (b,b') (by simp[hm])
   simp at this
   omega
  ·have:=hlt (s,b') (by simp[hm])
   simp at this
   omega
theorem qaa{ns:Sg}{k nx:Nat}{ks:List Nat}{st st':St}(g:Sg)(ho:qEX g ns nx=true)(hn:∀x∈ns,lkE st.env x.1=.nilsl)(he:qsq g ns k ks nx st=st'):qck st st':=he▸qmD ho hn
theorem qck.refl(st:St):qck st st:=fun _ _ _ _ _ h=>h
theorem qck.trans{s s' s'':St}(h:qck s s')(h':qck s' s''):qck s s'':=fun _ _ _ _ hF hi=>h' _ _ _ _ hF (h _ _ _ _ hF hi)
end
inductive Src where
 |pure|nil|blk (b:Nat)
def qbq:List Src→List Nat
 |[]=>[]
 |.blk b::l=>b::qbq l
 |_::l=>qbq l
def qbf(frs:List Nat)(hp:Nat→Option Blk):Nat→Option Blk:=fun b=>if b∈frs then none else hp b
def qEY(hp hpX:Nat→Option Blk):Src→D→D→Prop
 |.pure,d,r=>pur hpX 64 d=some r
 |.nil,d,r=>d=.nilsl∧∃k,r=.fr k []
 |.blk b,d,r=>∃blk rows,d=.os b 0 rows.length∧hp b=some blk∧r=.fr blk.k rows∧if blk.flat=true then rows=blk.rows else qpv hpX 64 blk.rows=some rows
def qnB(hp hpX:Nat→Option Blk):List Src→List D→List D→Prop
 |[],[],[]=>True
 |s::ss,d::ds,r::rs=>qEY hp hpX s d r∧qnB hp hpX ss ds rs
 |_,_,_=>False
def qb6(P:Program)(st:St):ResultVar→Option D
 |.tmp t=>some (lkE st.env t)
 |.cell a t=>qhr P (lkH st.hp) t (lkE st.env a)
def qjn:List D→D
 |[d]=>d
 |ds=>.tup ds
def qi0:D→Bool
 |.tup _=>false
 |_=>true
def qIp(P:Program)(rv:List ResultVar)(st:St)(r:D):Prop:=
 ∃(ss:List Src) (ds rs:List D),rv.map (qb6 P st)=ds.map some∧(qbq ss).Nodup∧qnB (lkH st.hp) (qbf (qbq ss) (lkH st.hp)) ss ds rs∧r=qjn rs∧(rs.length=1→rs.all qi0=true)
def qb7:D→Bool
 |.agg _=>false
 |_=>true
def qIq(P:Program)(rv:List ResultVar)(st:St)(r:D):Prop:=
 ∃(ss:List Src) (ds rs:List D),rv.map (qb6 P st)=ds.map some∧(qbq ss).Nodup∧qnB (lkH st.hp) (qbf (qbq ss) (lkH st.hp)) ss (ds.flatMap qah) (rs.flatMap qah)∧r=qjn rs∧(rs.length=1→rs.all qi0=true)∧
  ds.map (fun d=>(qb7 d,(qah d).length))=rs.map (fun d=>(qb7 d,(qah d).length))∧(rs.flatMap qah).all qb7=true
def Fin(P:Program)(rv:List ResultVar)(st:St)(r:D):Prop:=qIp P rv st r∨qIq P rv st r
def qg0(P:Program)(rv:List ResultVar)(out:Outc):X→St→Prop
 |.normal,st=>∃r,out=.ret r∧Fin P rv st r
 |.ret,st=>∃r,out=.ret r∧Fin P rv st r
 |.pan d,_=>out=.pan d
 |_,_=>False
section
variable {P:Program}{w w' w0:World}{pu Q:Nat→Prop}{S:Frm}{ow owX:Nat→Ow}{base:Nat}{hp hpX:Nat→Option Blk}
theorem qt9{n:Nat}{d r:D}(h:pur hp n d=some r):∀k rows,r≠ .fr k rows:=by
 rintro k rows rfl
 cases n with
 |zero=>simp[pur]at h
 |succ n=>
  cases d<;>simp only[pur]at h
  case os=>obtain⟨blk,_,h⟩:=Option.bind_eq_some_iff.1 h;split at h;(obtain⟨x,_,h⟩:=Option.map_eq_some_iff.1 h;cases h);cases h
  case op=>obtain⟨blk,_,h⟩:=Option.bind_eq_some_iff.1 h;split at h;(obtain⟨x,_,h⟩:=Option.map_eq_some_iff.1 h;cases h);cases h
  case agg=>obtain⟨x,_,h⟩:=Option.map_eq_some_iff.1 h;cases h
  case tup=>obtain⟨x,_,h⟩:=Option.map_eq_some_iff.1 h;cases h
  case clo=>obtain⟨x,_,h⟩:=Option.bind_eq_some_iff.1 h;obtain⟨y,_,h⟩:=Option.map_eq_some_iff.1 h;cases h
  case iface=>obtain⟨x,_,h⟩:=Option.map_eq_some_iff.1 h;cases h
  all_goals cases h
theorem qua{n m:Nat}{d r:D}(h:pur hp n d=some r):adC m r=(r,[]):=by
 have:=qt9 h
 cases r<;>first|rfl|exact(this _ _ rfl).elim
theorem qub{n:Nat}:∀{rs:List D} {m:Nat},(∀r∈rs,∃hp k d,pur hp k d=some r)→adL m rs=(rs,[])
 |[],_,_=>rfl
 |r::rs,m,h=>by
  obtain⟨hp,k,d,hr⟩:=h r (by simp)
  simp only[adL,qua hr,qub (n:=n) (rs:=rs) (m:=m+1) fun r hr=>h r (by simp[hr])]
  rfl
theorem qz7{n m:Nat}{d r:D}(h:pur hp n d=some r):adE m r=(r,[]):=by
 cases r with
 |agg cs=>
  have hcs:∀c∈cs,∃hp k d,pur hp k d=some c:=by
   cases n with
   |zero=>simp[pur]at h
   |succ n=>
    cases d<;>simp only[pur]at h
    case os=>obtain⟨blk,_,h⟩:=Option.bind_eq_some_iff.1 h;split at h;(obtain⟨x,_,h⟩:=Option.map_eq_some_iff.1 h;cases h);cases h
    case op=>obtain⟨blk,_,h⟩:=Option.bind_eq_some_iff.1 h;split at h;(obtain⟨x,_,h⟩:=Option.map_eq_some_iff.1 h;cases h);cases h
    case tup=>obtain⟨x,_,h⟩:=Option.map_eq_some_iff.1 h;cases h
    case clo=>obtain⟨x,_,h⟩:=Option.bind_eq_some_iff.1 h;obtain⟨y,_,h⟩:=Option.map_eq_some_iff.1 h;cases h
    case iface=>obtain⟨x,_,h⟩:=Option.map_eq_some_iff.1 h;cases h
    case agg ds=>
     obtain⟨x,hx,h⟩:=Option.map_eq_some_iff.1 h
     injection h with h;subst h
     intro c hc
     obtain⟨i,hi⟩:=List.mem_iff_getElem?.1 hc
     obtain⟨d,m,_,_,hp'⟩:=(qfa n ds x hx).2 i c hi
     exact⟨hp,m,d,hp'⟩
    all_goals cases h
  simp only[adE,qub (n:=0) hcs]
 |_=>exact qua (m:=m) h
def owF(ow:Nat→Ow):Nat→List Src→List D→Nat→Ow
 |n,.pure::ss,r::rs,b'=>owF ow (n+qdy r) ss rs b'
 |n,.nil::ss,_::rs,b'=>if b'=n then .empty else owF ow (n+1) ss rs b'
 |n,.blk b::ss,_::rs,b'=>if b'=n then ow b else owF ow (n+1) ss rs b'
 |_,_,_,_=>.pending
theorem qlL{g b':Nat}:∀{ss:List Src} {rs:List D} {n:Nat},(owF ow n ss rs b').on g→n≤b'∧∃b∈qbq ss,(ow b).on g
 |[],rs,n,h=>by simp[owF]at h;exact h.elim
 |s::ss,[],n,h=>by cases s<;>(simp[owF]at h;exact h.elim)
 |.pure::ss,r::rs,n,h=>by
  simp only[owF]at h
  obtain⟨h1,h2⟩:=qlL h
  exact⟨by omega,h2⟩
 |.nil::ss,r::rs,n,h=>by
  simp only[owF]at h
  split at h
  ·exact h.elim
  ·obtain⟨h1,h2⟩:=qlL h
   exact⟨by omega,h2⟩
 |.blk b::ss,r::rs,n,h=>by
  simp only[owF]at h
  split at h
  ·rename_i he;exact⟨by omega,b,by simp[qbq],h⟩
  ·obtain⟨h1,c,h2,h3⟩:=qlL h
   exact⟨by omega,c,by simp[qbq,h2],h3⟩
theorem qmE(hinj:∀b b' g,(ow b).on g→(ow b').on g→b=b'){g b1 b2:Nat}:∀{ss:List Src} {rs:List D} {n:Nat},(qbq ss).Nodup→
  (owF ow n ss rs b1).on g→(owF ow n ss rs b2).on g→b1=b2
 |[],rs,n,_,h,_=>by simp[owF]at h;exact h.elim
 |s::ss,[],n,_,h,_=>by cases s<;>(simp[owF]at h;exact h.elim)
 |.pure::ss,r::rs,n,hd,h,h'=>by
  simp only[owF]at h h'
  exact qmE hinj (ss:=ss) hd h h'
 |.nil::ss,r::rs,n,hd,h,h'=>by
  simp only[owF]at h h'
  split at h
  ·exact h.elim
  ·split at h'
   ·exact h'.elim
   ·exact qmE hinj (ss:=ss) hd h h'
 |.blk b::ss,r::rs,n,hd,h,h'=>by
  simp only[qbq,List.nodup_cons]at hd
  simp only[owF]at h h'
  split at h<;>split at h'
  ·omega
  ·obtain⟨_,c,hc,e⟩:=qlL h'
   have:=hinj b c _ h e
   subst this
   exact(hd.1 hc).elim
  ·obtain⟨_,c,hc,e⟩:=qlL h
   have:=hinj b c _ h' e
   subst this
   exact(hd.1 hc).elim
  ·exact qmE hinj (ss:=ss) hd.2 h h'
theorem qn4(hm:Mem base w pu ow hp)(hmX:Mem base w pu owX hpX)(hX:∀b,owX b=ow b∨owX b=.dead)(hz:∀g,pu g→Q g)(hzX:∀b g o k sz,owX b=.lies g o k sz→Q g){R:Nat→Ow}:∀(ss:List Src) (ds rs:List D) (n:Nat),qnB hp hpX ss ds rs→
  (∀b',n≤b'→R b'=owF ow n ss rs b')→
  (∀b' blk',lkH (adT n rs).2 b'=some blk'→qbP w Q R (R b') blk')∧(∀b',n≤b'→lkH (adT n rs).2 b'=none→R b'=.pending)∧
  (adT n rs).1.length=ds.length∧∀(i:Nat) (v:Value) (d r:D),ds[i]? =some d→(adT n rs).1[i]? =some r→Rep w pu ow v d→Rep w Q R v r
 |[],[],[],n,_,hR=>⟨fun b' blk' h=>by simp[adT,lkH]at h,fun b' hb _=>by rw[hR b' hb];rfl,rfl,fun i v d r h=>by simp at h⟩
 |s::ss,d::ds,r::rs,n,hf,hR=>by
  obtain⟨hc,hf⟩:=hf
  have hXe:Ext w pu ow w pu owX:=⟨fun g hg=>⟨hg,rfl⟩,fun b=>.inr (hX b)⟩
  cases s with
  |pure=>
   simp only[qEY]at hc
   have had:=qz7 (m:=n) hc
   obtain⟨h1,h2,h3,h4⟩:=qn4 (R:=R) hm hmX hX hz hzX ss ds rs (n+qdy r) hf (fun b' hb=>by rw[hR b' (by omega)];rfl)
   have hlow:∀b' blk',lkH (adT (n+qdy r) rs).2 b'=some blk'→n+qdy r≤b':=fun b' blk' h=>(qj4 rs _ b' blk' h).1
   refine⟨fun b' blk' h=>?_,fun b' hb h=>?_,?_,fun i v d' r' e1 e2 hv=>?_⟩
   ·simp only[adT,had,List.nil_append]at h
    exact h1 b' blk' h
   ·simp only[adT,had,List.nil_append]at h
    rcases Nat.lt_or_ge b' (n+qdy r)with hlt|hge
    ·rw[hR b' hb]
     simp only[owF]
     have:∀(ss:List Src) (rs:List D) (k:Nat),b'<k→owF ow k ss rs b'=.pending:=by
      intro ss
      induction ss with
      |nil=>intro rs k _;rfl
      |cons s ss ih=>
       intro rs k hk
       cases rs with
       |nil=>cases s<;>rfl
       |cons r rs=>
        cases s<;>simp only[owF]
        ·exact ih rs _ (by omega)
        ·rw[if_neg (by omega)];exact ih rs _ (by omega)
        ·rw[if_neg (by omega)];exact ih rs _ (by omega)
     exact this ss rs _ hlt
    ·exact h2 b' hge h
   ·simp only[adT,had,List.length_cons,h3]
   ·simp only[adT,had]at e2
    cases i with
    |zero=>
     simp at e1 e2
     subst e1 e2
     exact .pure _ _ (qlA hmX hz 64 v d r (hv.mono hXe) (.inr hzX) hc)
    |succ i=>exact h4 i v d' r' (by simpa using e1) (by simpa using e2) hv
  |nil=>
   obtain⟨rfl,k,rfl⟩:=hc
   have hn:R n=.empty:=by rw[hR n (Nat.le_refl _)];simp[owF]
   obtain⟨h1,h2,h3,h4⟩:=qn4 (R:=R) hm hmX hX hz hzX ss ds rs (n+1) hf (fun b' hb=>by rw[hR b' (by omega)];simp only[owF];rw[if_neg (by omega)])
   refine⟨fun b' blk' h=>?_,fun b' hb h=>?_,?_,fun i v d' r' e1 e2 hv=>?_⟩
   ·simp only[adT,adE,adC,qdy,qaO,lkH]at h
    split at h
    ·rename_i he
     subst he
     simp at h
     subst h
     rw[hn]
     exact⟨fun _=>rfl,rfl⟩
    ·exact h1 b' blk' (by simpa using h)
   ·simp only[adT,adE,adC,qdy,qaO,lkH]at h
    split at h
    ·simp at h
    ·rename_i he
     exact h2 b' (by omega) (by simpa using h)
   ·simp only[adT,List.length_cons,qdy,h3]
   ·simp only[adT,adE,adC,qdy]at e2
    cases i with
    |zero=>
     simp at e1 e2
     subst e1 e2
     have:v=.slice none 0 0:=by
      cases hv with
      |pure _ _ h=>cases h
      |nilsl=>rfl
     subst this
     exact .ose none n 0 hn
    |succ i=>exact h4 i v d' r' (by simpa using e1) (by simpa using e2) hv
  |blk b=>
   obtain⟨blk,rows,rfl,hb,rfl,hrows⟩:=hc
   have hn:R n=ow b:=by rw[hR n (Nat.le_refl _)];simp[owF]
   obtain⟨h1,h2,h3,h4⟩:=qn4 (R:=R) hm hmX hX hz hzX ss ds rs (n+1) hf (fun b' hb=>by rw[hR b' (by omega)];simp only[owF];rw[if_neg (by omega)])
   refine⟨fun b' blk' h=>?_,fun b' hb h=>?_,?_,fun i v d' r' e1 e2 hv=>?_⟩
   ·simp only[adT,adE,adC,qdy,qaO,lkH]at h
    split at h
    ·rename_i he
     subst he
     simp at h
     subst h
     rw[hn]
     have hblk:=hm.blk b blk hb
     obtain⟨hfl,hblk⟩:=hblk
     have hfacts:rows.length=blk.rows.length∧(∀k,(∀r∈blk.rows,r.length=k)→∀r∈rows,r.length=k)∧∀(i j:Nat) (d':D),qar rows i j=some d'→
       ∃d,qar blk.rows i j=some d∧∀v,Rep w pu ow v d→RepP w Q v d':=by
      split at hrows
      ·rename_i hfb
       subst hrows
       exact⟨rfl,fun k h=>h,fun i j d' hd=>⟨d',hd,fun v hv=>(qhv hv (qfJ (hfl hfb) hd)).zone hz⟩⟩
      ·obtain⟨p1,p2,p3⟩:=qnN hrows
       refine⟨p1,p2,fun i j d' hd=>?_⟩
       obtain⟨d,m,_,hd2,hpm⟩:=p3 i j d' hd
       exact⟨d,hd2,fun v hv=>qlA hmX hz m v d d' (hv.mono hXe) (.inr hzX) hpm⟩
     obtain⟨f1,f2,f3⟩:=hfacts
     refine⟨fun h=>h,?_⟩
     generalize ow b=oo at hblk
     cases oo with
     |dead=>exact hblk
     |pending=>trivial
     |empty=>
      simp only at hblk ⊢
      rw[hblk]at f1
      exact List.length_eq_zero_iff.1 f1
     |mp y=>
      have hft:=hblk.1.1
      rw[if_pos hft]at hrows
      subst hrows
      exact⟨⟨hfl hft,hblk.1.2⟩,hblk.2⟩
     |lies g o k sz=>
      obtain⟨q1,q2,q3,q4,c,t,q5,q6,q7⟩:=hblk
      refine⟨q1,q2,f2 k q3,by rw[f1];exact q4,c,t,q5,q6,fun i j d' hd=>?_⟩
      obtain⟨d,hd2,hv⟩:=f3 i j d' hd
      obtain⟨v,hv1,hv2⟩:=q7 i j d hd2
      exact⟨v,hv1,.pure _ _ (hv v hv2)⟩
    ·exact h1 b' blk' (by simpa using h)
   ·simp only[adT,adE,adC,qdy,qaO,lkH]at h
    split at h
    ·simp at h
    ·rename_i he
     exact h2 b' (by omega) (by simpa using h)
   ·simp only[adT,List.length_cons,qdy,h3]
   ·simp only[adT,adE,adC,qdy]at e2
    cases i with
    |zero=>
     simp at e1 e2
     subst e1 e2
     generalize rows.length=ll at hv ⊢
     cases hv with
     |pure _ _ h=>cases h
     |osd a n' c _ _ _ hb'=>exact .osd a n' c n 0 _ (hn.trans hb')
     |ose a _ _ hb'=>exact .ose a n 0 (hn.trans hb')
     |osa a cap _ _ _ g o k sz hb' hl hm'=>exact .osa a cap n 0 _ g o k sz (hn.trans hb') hl hm'
    |succ i=>exact h4 i v d' r' (by simpa using e1) (by simpa using e2) hv
 |[],_::_,_,n,hf,_=>by simp[qnB]at hf
 |[],[],_::_,n,hf,_=>by simp[qnB]at hf
 |_::_,[],_,n,hf,_=>by simp[qnB]at hf
 |_::_,_::_,[],n,hf,_=>by simp[qnB]at hf
theorem qhB{n:Nat}{d:D}(h:qb7 d=true):adE n d=adC n d∧qdy d=1:=by
 cases d<;>first|(cases h;done)|exact⟨rfl,rfl⟩
theorem qhC:∀{cs:List D} {n:Nat},cs.all qb7=true→adT n cs=adL n cs
 |[],_,_=>rfl
 |c::cs,n,h=>by
  simp only[List.all_cons,Bool.and_eq_true]at h
  obtain⟨h1,h2⟩:=qhB (n:=n) h.1
  simp only[adT,adL,h1,h2,qhC h.2]
theorem qiw:∀{xs ys:List D} {n:Nat},xs.all qb7=true→adT n (xs++ys)=((adT n xs).1++(adT (n+xs.length) ys).1,(adT n xs).2++(adT (n+xs.length) ys).2)
 |[],ys,n,_=>by simp[adT]
 |x::xs,ys,n,h=>by
  simp only[List.all_cons,Bool.and_eq_true]at h
  obtain⟨h1,h2⟩:=qhB (n:=n) h.1
  simp only[List.cons_append,adT,h1,h2,qiw (xs:=xs) (n:=n+1) h.2,List.length_cons,List.append_assoc,show n+1+xs.length=n+(xs.length+1)by omega]
theorem qcO{d:D}(h:qb7 d=true):qah d=[d]:=by
 cases d<;>first|(cases h;done)|rfl
theorem qjy{d:D}(h:qb7 d=false):∃cs,d=.agg cs:=by
 cases d<;>first|(cases h;done)|exact⟨_,rfl⟩
theorem qg1:∀{rs:List D} {n:Nat},(rs.flatMap qah).all qb7=true→(adT n rs).2=(adT n (rs.flatMap qah)).2
 |[],_,_=>rfl
 |r::rs,n,h=>by
  rw[List.flatMap_cons,List.all_append,Bool.and_eq_true]at h
  rw[List.flatMap_cons,qiw h.1]
  simp only[adT]
  cases hc:qb7 r with
  |true=>
   obtain⟨h1,h2⟩:=qhB (n:=n) hc
   rw[qg1 h.2,qcO hc,h2]
   simp[adT]
  |false=>
   obtain⟨cs,rfl⟩:=qjy hc
   rw[qg1 h.2]
   simp only[adE,qdy,qah]at h ⊢
   rw[qhC h.1]
theorem qqN{R1 R2:Value→D→Prop}(hagg1:∀v cs,R1 v (.agg cs)→∃vs:Array Value,v=.agg vs∧vs.size=cs.length∧∀(i:Nat) (v:Value) (d:D),vs[i]? =some v→cs[i]? =some d→R1 v d)
  (hagg2:∀(vs:Array Value) cs,vs.size=cs.length→(∀(i:Nat) (v:Value) (d:D),vs[i]? =some v→cs[i]? =some d→R2 v d)→R2 (.agg vs) (.agg cs)):
  ∀{ds rs:List D} {n:Nat},ds.map (fun d=>(qb7 d,(qah d).length))=rs.map (fun d=>(qb7 d,(qah d).length))→(rs.flatMap qah).all qb7=true→
   (∀(i:Nat) (v:Value) (d r:D),(ds.flatMap qah)[i]? =some d→(adT n (rs.flatMap qah)).1[i]? =some r→R1 v d→R2 v r)→
   ∀(i:Nat) (v:Value) (d r:D),ds[i]? =some d→(adT n rs).1[i]? =some r→R1 v d→R2 v r
 |[],[],_,_,_,_,i,v,d,r,h,_,_=>by simp at h
 |[],_::_,_,h,_,_,_,_,_,_,_,_,_=>by simp at h
 |_::_,[],_,h,_,_,_,_,_,_,_,_,_=>by simp at h
 |d0::ds,r0::rs,n,hs,hall,h,i,v,d,r,h1,h2,hv=>by
  simp only[List.map_cons,List.cons.injEq,Prod.mk.injEq]at hs
  obtain⟨⟨hcell,hlen⟩,hs⟩:=hs
  rw[List.flatMap_cons,List.all_append,Bool.and_eq_true]at hall
  rw[List.flatMap_cons,List.flatMap_cons,qiw hall.1]at h
  have hl:∀{cs:List D} {m:Nat},cs.all qb7=true→(adT m cs).1.length=cs.length:=by
   intro cs
   induction cs with
   |nil=>intro m _;rfl
   |cons c cs ih=>intro m hc;simp only[List.all_cons,Bool.and_eq_true]at hc;simp only[adT,List.length_cons,ih hc.2]
  cases i with
  |zero=>
   simp only[adT,List.getElem?_cons_zero,Option.some.injEq]at h1 h2
   subst h1 h2
   cases hc:qb7 r0 with
   |true=>
    rw[qcO hc,qcO (hcell.trans hc)]at h
    rw[(qhB hc).1]
    refine h 0 v d0 _ (by simp) ?_ hv
    simp[adT,(qhB (n:=n) hc).1]
   |false=>
    obtain⟨cs,rfl⟩:=qjy hc
    obtain⟨ds',rfl⟩:=qjy (hcell.trans hc)
    obtain⟨vs,rfl,hsz,hvs⟩:=hagg1 _ _ hv
    simp only[adE]
    simp only[qah]at h hall hlen
    rw[qhC hall.1]at h
    have hl2:(adL n cs).1.length=cs.length:=by rw[←qhC hall.1];exact hl hall.1
    refine hagg2 vs _ (by rw[hl2,hsz,hlen]) fun i v' d' e1 e2=>?_
    have hi:i<ds'.length:=by
     have:=(Array.getElem?_eq_some_iff.1 e1).1
     omega
    refine h i v' ds'[i] d' (by rw[List.getElem?_append_left hi,List.getElem?_eq_getElem hi]) ?_ (hvs i v' _ e1 (List.getElem?_eq_getElem hi))
    rw[List.getElem?_append_left (by have:=(List.getElem?_eq_some_iff.1 e2).1;exact this)]
    exact e2
  |succ i=>
   refine qqN hagg1 hagg2 (n:=n+qdy r0) hs hall.2 (fun i' v' d' r' e1 e2=>?_) i v d r (by simpa using h1) (by simpa[adT]using h2) hv
   have hw:qdy r0=(qah r0).length:=by cases r0<;>rfl
   refine h ((qah d0).length+i') v' d' r' ?_ ?_
   ·rw[List.getElem?_append_right (by omega)];simpa using e1
   ·rw[List.getElem?_append_right (by rw[hl hall.1,hlen];omega),hl hall.1,hlen]
    rw[←hw,show qdy r0+i'-qdy r0=i' by omega]
    exact e2
end
section
variable {P:Program}{w w' w0:World}{pu Q:Nat→Prop}{S:Frm}{ow owX:Nat→Ow}{base:Nat}{hp:Nat→Option Blk}
def quc(tmps:Array Value):ResultVar→Sem Value
 |.tmp t=>pure (tmps.getD t undef)
 |.cell a t=>do loadVar t (←asAddr (tmps.getD a undef))
theorem qss(hm:Mem base w pu ow hp){t:TypeId}{a:Value}{c d:D}(ha:Rep w pu ow a c)(h:qhr P hp t c=some d):
  ∃v,((asAddr a).bind fun x=>loadVar t x).run P w=.ok v w∧Rep w pu ow v d:=by
 unfold qhr at h
 split at h
 ·obtain⟨b,off,f,rfl,_,hm',hf⟩:=ha.ptr_inv
  obtain⟨v,h1,h2⟩:=qdx (qiV hm' hf) h
  exact⟨v,h1,h2⟩
 ·rename_i b row off
  obtain⟨blk,hb,h⟩:=Option.bind_eq_some_iff.1 h
  have hblk:=hm.blk b blk hb
  have hd:ow b≠ .dead:=fun hd=>by rw[hd]at hblk;exact hblk.2
  obtain⟨g,o,k,sz,hat,rfl⟩:=ha.op_inv hd
  rw[hat]at hblk
  obtain⟨v,h1,h2⟩:=qdx (P:=P) (w:=w) (pu:=pu) (ow:=ow) (b:=g) (off:=o+row*k+off) (cs:=(qbS blk.rows row).drop off) (fun j c hj=>by
   rw[List.getElem?_drop]at hj
   obtain⟨v,h1,h2⟩:=hblk.cell (qdj hj)
   exact⟨v,by rw[←h1];congr 2;omega,h2⟩) h
  exact⟨v,h1,h2⟩
 ·cases h
theorem qud{st:St}{a:Act}(hm:Mem base w pu ow (lkH st.hp))(he:qe5 w pu ow st.env a){rv:ResultVar}{d:D}(h:qb6 P st rv=some d):
  ∃v,(quc a.tmps rv).run P w=.ok v w∧Rep w pu ow v d:=by
 cases rv with
 |tmp t=>
  simp only[qb6,Option.some.injEq]at h
  subst h
  exact⟨_,rfl,he t⟩
 |cell a' t=>exact qss hm (he a') h
theorem qn5{st:St}{a:Act}(hm:Mem base w pu ow (lkH st.hp))(he:qe5 w pu ow st.env a):∀(rvs:List ResultVar) (ds:List D),rvs.map (qb6 P st)=ds.map some→
  ∃vs:List Value,(rvs.mapM (quc a.tmps)).run P w=.ok vs w∧vs.length=ds.length∧∀(i:Nat) (v:Value) (d:D),vs[i]? =some v→ds[i]? =some d→Rep w pu ow v d
 |[],[],_=>⟨[],by simp,rfl,fun i v d h=>by simp at h⟩
 |[],_::_,h=>by simp at h
 |_::_,[],h=>by simp at h
 |rv::rvs,d::ds,h=>by
  simp only[List.map_cons,List.cons.injEq]at h
  obtain⟨v,h1,h2⟩:=qud hm he h.1
  obtain⟨vs,h3,h4,h5⟩:=qn5 hm he rvs ds h.2
  refine⟨v::vs,?_,by simp[h4],fun i v' d' e1 e2=>?_⟩
  ·simp[List.mapM_cons,h1,h3]
  ·cases i with
   |zero=>simp at e1 e2;subst e1 e2;exact h2
   |succ i=>exact h5 i v' d' (by simpa using e1) (by simpa using e2)
theorem qgn{fn:Func}{st:St}{a:Act}(hm:Mem base w pu ow (lkH st.hp))(he:qe5 w pu ow st.env a){ds:List D}(h:fn.results.toList.map (qb6 P st)=ds.map some):
  ∃vs:List Value,(results fn a.tmps).run P w=.ok (match vs with|[v]=>v|vs=>.tuple vs.toArray) w∧vs.length=ds.length∧∀(i:Nat) (v:Value) (d:D),vs[i]? =some v→ds[i]? =some d→Rep w pu ow v d:=by
 obtain⟨vs,h1,h2,h3⟩:=qn5 (P:=P) hm he _ _ h
 refine⟨vs,?_,h2,h3⟩
 have hr:results fn a.tmps=(do let vs ←fn.results.mapM (quc a.tmps);pure (if h:vs.size=1 then vs[0]else .tuple vs)):=by
  unfold results
  congr 1
 rw[hr,Array.mapM_eq_mapM_toList]
 simp only[Sem.run_bind,Sem.run_map,h1,Result.andThen_ok,Sem.run_pure]
 congr 1
 match vs with
 |[]=>simp
 |[v]=>simp
 |v::u::vs=>simp
theorem qqO{fn:Func}{st:St}{a:Act}(hi:qbT w0 S st.nx st a w){ss:List Src}{ds rs fl:List D}(h1:fn.results.toList.map (qb6 P st)=ds.map some)(h2:(qbq ss).Nodup)(hlen:rs.length=ds.length)(h5:rs.length=1→rs.all qi0=true)
  (HF:∀{pu Q:Nat→Prop} {ow owX R:Nat→Ow} (n:Nat),Mem w0.heap.size w pu ow (lkH st.hp)→Mem w0.heap.size w pu owX (qbf (qbq ss) (lkH st.hp))→(∀b,owX b=ow b∨owX b=.dead)→(∀g,pu g→Q g)→(∀b g o k sz,owX b=.lies g o k sz→Q g)→(∀b',n≤b'→R b'=owF ow n ss fl b')→
   (∀b' blk',lkH (adT n rs).2 b'=some blk'→qbP w Q R (R b') blk')∧(∀b',n≤b'→lkH (adT n rs).2 b'=none→R b'=.pending)∧
   (adT n rs).1.length=ds.length∧∀(i:Nat) (v:Value) (d r:D),ds[i]? =some d→(adT n rs).1[i]? =some r→Rep w pu ow v d→Rep w Q R v r):
  a.defers=S.df∧∃v,(results fn a.tmps).run P w=.ok v w∧qtQ w0 S.z (.ret (qjn rs)) (.returned v) w:=by
 obtain⟨pu,ow,hm,he,hb,hz,hid,hs,hd⟩:=hi
 obtain⟨vs,g1,g2,g3⟩:=qgn (P:=P) (fn:=fn) hm he h1
 refine⟨hd.1,_,g1,hb,?_⟩
 let owX:Nat→Ow:=fun b=>if b∈qbq ss then .dead else ow b
 have hX:∀b,owX b=ow b∨owX b=.dead:=fun b=>by simp only[owX];split<;>simp
 have hXe:Ext w pu ow w pu owX:=⟨fun g hg=>⟨hg,rfl⟩,fun b=>.inr (hX b)⟩
 have hXat:∀b g o k sz,owX b=.lies g o k sz→b∉qbq ss∧ow b=.lies g o k sz:=fun b g o k sz h=>by
  simp only[owX]at h
  split at h
  ·cases h
  ·rename_i hn;exact⟨hn,h⟩
 have hXon:∀b g,(owX b).on g→b∉qbq ss∧(ow b).on g:=fun b g h=>by
  simp only[owX]at h
  split at h
  ·exact h.elim
  ·rename_i hn;exact⟨hn,h⟩
 have hmX:Mem w0.heap.size w pu owX (qbf (qbq ss) (lkH st.hp)):=by
  refine⟨fun b blk hb=>?_,fun b hb=>?_,fun b b' g e e'=>hm.injO b b' g (hXon _ _ e).2 (hXon _ _ e').2,fun b g e=>hm.ownO b g (hXon _ _ e).2,hm.zone⟩
  ·simp only[qbf]at hb
   split at hb
   ·cases hb
   ·rename_i hn
    have:owX b=ow b:=if_neg hn
    rw[this]
    exact(hm.blk b blk hb).mono hXe fun _ _=>rfl
  ·simp only[qbf]at hb
   split at hb
   ·rename_i hn;left;exact if_pos hn
   ·rename_i hn
    have:owX b=ow b:=if_neg hn
    rw[this]
    exact hm.none b hb
 let Q:Nat→Prop:=fun g=>pu g∨∃b o k sz,owX b=.lies g o k sz
 have hzQ:∀g,pu g→Q g:=fun g h=>.inl h
 have hzX:∀b g o k sz,owX b=.lies g o k sz→Q g:=fun b g o k sz h=>.inr ⟨b,o,k,sz,h⟩
 refine⟨Q,fun g hg=>?_,_,rfl,fun n=>?_⟩
 ·rcases hg with hg|⟨b,o,k,sz,hat⟩
  ·exact⟨hm.zone g hg,hz g hg⟩
  ·have:=(hXat _ _ _ _ _ hat).2
   exact⟨hm.at_lt this,.inr (hm.own b g o k sz this).1⟩
 ·let R:Nat→Ow:=fun b'=>if n≤b' then owF ow n ss fl b' else .pending
  obtain⟨f1,f2,f3,f4⟩:=HF (R:=R) n hm hmX hX hzQ hzX (fun b' hb'=>if_pos hb')
  have hRat:∀b' g,(R b').on g→(owF ow n ss fl b').on g:=fun b' g h=>by
   simp only[R]at h
   split at h
   ·exact h
   ·exact h.elim
  have hMem:Mem w0.heap.size w Q R (lkH (adT n rs).2):=by
   refine⟨f1,fun b' hb'=>.inr ?_,fun b1 b2 g e1 e2=>qmE hm.injO h2 (hRat _ _ e1) (hRat _ _ e2),fun b' g e=>?_,fun g hg=>?_⟩
   ·rcases Nat.lt_or_ge b' n with h|h
    ·exact if_neg (by omega)
    ·exact f2 b' h hb'
   ·obtain⟨_,c,hc,hat⟩:=qlL (hRat _ _ e)
    obtain⟨q1,q2⟩:=hm.ownO c g hat
    refine⟨q1,fun hq=>?_⟩
    rcases hq with hq|⟨b,o2,k2,sz2,hb2⟩
    ·exact q2 hq
    ·obtain⟨q3,q4⟩:=hXat _ _ _ _ _ hb2
     have:=hm.injO b c _ (Ow.on_lies q4) hat
     subst this
     exact q3 hc
   ·rcases hg with hg|⟨b,o,k,sz,hat⟩
    ·exact hm.zone g hg
    ·exact hm.at_lt (hXat _ _ _ _ _ hat).2
  have hpend:∀b',lkH (adT n rs).2 b'=none→R b'=.pending:=fun b' hb'=>by
   rcases Nat.lt_or_ge b' n with h|h
   ·exact if_neg (by omega)
   ·exact f2 b' h hb'
  have htup:∀(vs:List Value),vs.length=ds.length→(∀(i:Nat) (v:Value) (d:D),vs[i]? =some v→ds[i]? =some d→Rep w pu ow v d)→Rep w Q R (.tuple vs.toArray) (.tup (adT n rs).1):=fun vs hvl hvs=>by
   refine .tup _ _ (by simp[f3,hvl]) fun i v r e1 e2=>?_
   have hi:i<ds.length:=by
    have:=(List.getElem?_eq_some_iff.1 e2).1
    omega
   exact f4 i v ds[i] r (List.getElem?_eq_getElem hi) e2 (hvs i v ds[i] (by simpa using e1) (List.getElem?_eq_getElem hi))
  match rs,vs,hlen,g2,h5 with
  |[],[],hl,_,_=>exact⟨R,hMem,htup [] (by simpa using hl) (fun i v d h=>by simp at h),hpend⟩
  |[],_::_,hl,hg,_=>simp only[List.length_nil,List.length_cons]at hl hg;omega
  |_::_,[],hl,hg,_=>simp only[List.length_nil,List.length_cons]at hl hg;omega
  |[_],_::_::_,hl,hg,_=>simp only[List.length_nil,List.length_cons]at hl hg;omega
  |_::_::_,[_],hl,hg,_=>simp only[List.length_nil,List.length_cons]at hl hg;omega
  |r1::r2::rs,v1::v2::vs,hl,hg,_=>exact⟨R,hMem,htup _ hg g3,hpend⟩
  |[r],[v],hl,hg,h5=>
   have hnt:qi0 r=true:=by simpa using h5 rfl
   have had:qaM n r=adE n r:=by cases r<;>first|rfl|cases hnt
   have h2':(adT n [r]).2=(adE n r).2:=by simp[adT]
   refine⟨R,?_,?_,?_⟩
   ·show Mem _ _ _ _ (lkH (qaM n r).2)
    rw[had,←h2'];exact hMem
   ·show Rep _ _ _ v (qaM n r).1
    rw[had]
    have hdl:0<ds.length:=by simp at hl;omega
    exact f4 0 v ds[0] _ (List.getElem?_eq_getElem hdl) (by simp[adT]) (g3 0 v ds[0] rfl (List.getElem?_eq_getElem hdl))
   ·show ∀b,lkH (qaM n r).2 b=none→R b=.pending
    rw[had,←h2'];exact hpend
theorem qkc{hp hpX:Nat→Option Blk}:∀{ss:List Src} {ds rs:List D},qnB hp hpX ss ds rs→rs.length=ds.length
 |[],[],[],_=>rfl
 |_::_,_::_,_::_,h=>by simp[qkc h.2]
 |[],_::_,_,h=>h.elim
 |[],[],_::_,h=>h.elim
 |_::_,[],_,h=>by simp[qnB]at h
 |_::_,_::_,[],h=>by simp[qnB]at h
theorem qn6{fn:Func}{st:St}{a:Act}{r:D}(hi:qbT w0 S st.nx st a w)(hf:Fin P fn.results.toList st r):
  a.defers=S.df∧∃v,(results fn a.tmps).run P w=.ok v w∧qtQ w0 S.z (.ret r) (.returned v) w:=by
 rcases hf with⟨ss,ds,rs,h1,h2,h3,rfl,h5⟩|⟨ss,ds,rs,h1,h2,h3,rfl,h5,h6,h7⟩
 ·exact qqO hi h1 h2 (qkc h3) h5 fun{pu Q ow owX R} n hm hmX hX hz hzX hR=>qn4 hm hmX hX hz hzX ss ds rs n h3 hR
 ·have hlen:rs.length=ds.length:=by have:=congrArg List.length h6;simpa using this.symm
  refine qqO (fl:=rs.flatMap qah) hi h1 h2 hlen h5 fun{pu Q ow owX R} n hm hmX hX hz hzX hR=>?_
  obtain⟨f1,f2,f3,f4⟩:=qn4 hm hmX hX hz hzX ss _ _ n h3 hR
  have e:=qg1 (n:=n) h7
  have hl:∀{rs:List D} {m:Nat},(adT m rs).1.length=rs.length:=by
   intro rs
   induction rs with
   |nil=>intro m;rfl
   |cons r rs ih=>intro m;simp only[adT,List.length_cons,ih]
  refine⟨fun b' blk' h=>f1 b' blk' (by rw[←e];exact h),fun b' hb h=>f2 b' hb (by rw[←e];exact h),hl.trans hlen,?_⟩
  exact qqN (R1:=Rep w pu ow) (R2:=Rep w Q R) (fun v cs h=>h.agg_inv) (fun vs cs h1 h2=>.agg vs cs h1 h2) h6 h7 f4
def qac:Nat→List D→Env
 |_,[]=>[]
 |n,d::ds=>(n,d)::qac (n+1) ds
theorem qhD:∀{ds:List D} {n s:Nat},lkE (qac n ds) s=if n≤s then ds.getD (s-n) .undef else .undef
 |[],n,s=>by simp[qac,lkE]
 |d::ds,n,s=>by
  simp only[qac,lkE,qhD (ds:=ds)]
  by_cases h:s=n
  ·subst h;simp
  ·rw[if_neg h]
   by_cases h2:n≤s
   ·rw[if_pos h2,if_pos (by omega),show s-n=(s-(n+1))+1 by omega,List.getD_cons_succ]
   ·rw[if_neg h2,if_neg (by omega)]
theorem qkd{f:FuncId}{fn:Func}{c:Code}{ds:List D}{out:Outc}(hmix:P.follows .mixedOrders=true)(hf:P.funcs[f]? =some fn)(hb:fn.body=some c)(hname:(fn.name== "runtime.NumGoroutine")=false)
  (hn:ds.length≤fn.ntmps) (h:ev P c (qg0 P fn.results.toList out) ⟨qac 0 ds,[],0,fn.ntmps⟩):Contract P f ds out:=by
 refine⟨⟨fn,hf,by rw[hb];rfl,hname⟩,fun S w args hS ⟨hlen,hargs⟩=>?_⟩
 refine calls_of_wp hf hb ?_
 have hi:qbT w ⟨S,w,S,fun _=>.pending,[]⟩ 0 ⟨qac 0 ds,[],0,fn.ntmps⟩ {tmps:=args++Array.replicate (fn.ntmps-args.size) undef,defers:=[]} w:=by
  refine⟨S,fun _=>.pending,⟨fun b blk hb=>by simp[lkH]at hb,fun b _=>.inr rfl,fun b b' g h=>h.elim,fun b g h=>h.elim,hS⟩,fun s=>?_,Below.refl _ _,fun g hg=>.inl hg,fun b _=>rfl,by simp;omega,rfl,fun g hg=>⟨hg,rfl⟩,fun b=>.inl rfl⟩
  simp only
  rw[qhD,if_pos (Nat.zero_le _),Nat.sub_zero,Array.getD_eq_getD_getElem?,Array.getElem?_append]
  split
  ·rename_i hs
   rw[Array.getElem?_eq_getElem hs,List.getD_eq_getElem?_getD,List.getElem?_eq_getElem (by omega)]
   simp only[Option.getD_some]
   exact .pure _ _ (hargs s _ _ (Array.getElem?_eq_getElem hs) (List.getElem?_eq_getElem (by omega)))
  ·rename_i hs
   rw[List.getD_eq_getElem?_getD,List.getElem?_eq_none (by omega)]
   exact .pure _ _ (.undef _)
 refine wp_mono (qCd hmix c _ _ _ w (fun _=>rfl) hi h) fun e a w' he=>?_
 cases e with
 |normal=>
  obtain⟨st,⟨r,rfl,hfin⟩,hi'⟩:=he
  exact qn6 hi' hfin
 |ret=>
  obtain⟨st,⟨r,rfl,hfin⟩,hi'⟩:=he
  exact qn6 hi' hfin
 |panic chain=>
  obtain⟨d,st,hk,hdf,hbl,Q,v,rfl,hQ,hv,_⟩:=he
  simp only[qg0]at hk
  subst hk
  exact⟨hdf,hbl,Q,hQ,v,rfl,hv⟩
 |exit id=>obtain⟨st,hk,_⟩:=he;exact hk.elim
 |_=>exact he.elim
end
def qy3(P:Program)(all rest:List Oper)(id:Nat)(K:X→St→Prop):X→St→Prop
 |.normal,st=>qaK P all rest id st K
 |x,st=>K x st
section
variable {P:Program}{E:St→St→Prop}{K:X→St→Prop}{st:St}{env:Env}{hp:Hp}{nx n id:Nat}{dst:Option Tmp}{all rest:List Oper}
theorem qex{a b:Code}(h:evG E P a (qn1 (evG E P b K) K) st):evG E P (.seq a b) K st:=.inl h
theorem que:(fun x st'=>match x with|.normal=>qaK P all rest id st' K|x=>K x st')=qy3 P all rest id K:=by
 funext x st'
 cases x<;>rfl
theorem qst{op:Op}{ty:TypeId}{pos:String}{af:Array Edge}:qaK P all ({dst:=dst,op:=op,type:=ty,pos:=pos,after:=af,guard:=none}::rest) id st K=qan P op id dst st (qy3 P all rest (id+32) K):=by
 rw[←que];rfl
theorem qlM{op:Op}{ty:TypeId}{pos:String}{af:Array Edge}{j:Nat}{want:Bool}:qaK P all ({dst:=dst,op:=op,type:=ty,pos:=pos,after:=af,guard:=some (j,want)}::rest) id ⟨env,hp,nx,n⟩ K=
  ∃r,qdG all env j=some r∧(∀b,r=some b→(b=want→qan P op id dst ⟨env,hp,nx,n⟩ (qy3 P all rest (id+32) K))∧(b=(!want)→qai n dst=true∧qaK P all rest (id+32) ⟨qdF dst .skip env,hp,nx,n⟩ K))∧
   (r=none→qai n dst=true∧qaK P all rest (id+32) ⟨qdF dst .skip env,hp,nx,n⟩ K):=by
 rw[←que]
 apply propext
 simp only[qaK,St.put]
 cases hg:qdG all env j with
 |none=>simp
 |some r=>
  cases r with
  |none=>simp
  |some b=>
   simp only
   constructor
   ·intro h
    exact⟨_,rfl,fun b' hb=>by injection hb with hb;subst hb;exact h,fun hn=>by cases hn⟩
   ·rintro⟨r,h,h1,_⟩;injection h with h;subst h;exact h1 b rfl
theorem qbZ{o:Op}(hs:qan P o id dst ⟨env,hp,nx,n⟩ K=match op0 P (qab env) (lkH hp) o with
  |some d=>qcp ⟨env,hp,nx,n⟩ dst d env hp K
  |none=>
   match op1 P (qab env) o with
   |some (ptr,blk)=>qcp ⟨env,hp,nx,n⟩ dst (qw7 id ptr blk) env ((id,blk)::hp) K
   |none=>
    match qlg P (qab env) (lkH hp) o with
    |some bs=>∀b∈bs,qcp ⟨env,hp,nx,n⟩ dst (.bool b) env hp K
    |none=>False) (h1:op1 P (qab env) o=none) (h2:qlg P (qab env) (lkH hp) o=none):qan P o id dst ⟨env,hp,nx,n⟩ K=∃d,op0 P (qab env) (lkH hp) o=some d∧qai n dst=true∧K .normal ⟨qdF dst d env,hp,nx,n⟩:=by
 rw[hs,h1,h2]
 apply propext
 cases op0 P (qab env) (lkH hp) o<;>simp[qcp]
section
variable {x y z:Operand}{t t':TypeId}
theorem quf:qan P (.move x) id dst ⟨env,hp,nx,n⟩ K=(qai n dst=true∧K .normal ⟨qdF dst (qab env x) env,hp,nx,n⟩):=rfl
theorem qn7:qan P (.load t x) id dst ⟨env,hp,nx,n⟩ K=∃d,qhr P (lkH hp) t (qab env x)=some d∧qai n dst=true∧K .normal ⟨qdF dst d env,hp,nx,n⟩:=qbZ rfl rfl rfl
theorem qhE:qan P (.nilCheck x) id dst ⟨env,hp,nx,n⟩ K=∃d,qfG (lkH hp) (qab env x)=some d∧qai n dst=true∧K .normal ⟨qdF dst d env,hp,nx,n⟩:=qbZ rfl rfl rfl
theorem qsu{op:BinOp}(h:∃d,qnA P op t (qab env x) (qab env y)=some d∧qai n dst=true∧K .normal ⟨qdF dst d env,hp,nx,n⟩):qan P (.binOp op t x y t') id dst ⟨env,hp,nx,n⟩ K:=by
 obtain⟨d,h1,h2,h3⟩:=h
 unfold qan
 have h0:op0 P (qab env) (lkH hp) (.binOp op t x y t')=some d:=h1
 simp only[h0]
 exact⟨h2,h3⟩
theorem qn8{op:UnOp}:qan P (.unOp op t x) id dst ⟨env,hp,nx,n⟩ K=∃d,unD op (qab env x)=some d∧qai n dst=true∧K .normal ⟨qdF dst d env,hp,nx,n⟩:=qbZ rfl rfl rfl
theorem qdJ:qan P (.convert t t' x) id dst ⟨env,hp,nx,n⟩ K=∃d,qmn P t' t (qab env x)=some d∧qai n dst=true∧K .normal ⟨qdF dst d env,hp,nx,n⟩:=qbZ rfl rfl rfl
theorem qug:qan P (.pick x y z) id dst ⟨env,hp,nx,n⟩ K=∃d,qzS (qab env x) (qab env y) (qab env z)=some d∧qai n dst=true∧K .normal ⟨qdF dst d env,hp,nx,n⟩:=qbZ rfl rfl rfl
theorem qsv{f:Nat}:qan P (.field t x f) id dst ⟨env,hp,nx,n⟩ K=∃d,qnF P t (qab env x) f=some d∧qai n dst=true∧K .normal ⟨qdF dst d env,hp,nx,n⟩:=qbZ rfl rfl rfl
theorem qgJ{f:Nat}:qan P (.fieldAddr t x f) id dst ⟨env,hp,nx,n⟩ K=∃d,qdi P (lkH hp) t (qab env x) f=some d∧qai n dst=true∧K .normal ⟨qdF dst d env,hp,nx,n⟩:=qbZ rfl rfl rfl
theorem qeG:qan P (.indexAddr t x y) id dst ⟨env,hp,nx,n⟩ K=∃d,qcU P (lkH hp) t (qab env x) (qab env y)=some d∧qai n dst=true∧K .normal ⟨qdF dst d env,hp,nx,n⟩:=qbZ rfl rfl rfl
theorem qlN:qan P (.index t x y) id dst ⟨env,hp,nx,n⟩ K=∃d,qlx P t (qab env x) (qab env y)=some d∧qai n dst=true∧K .normal ⟨qdF dst d env,hp,nx,n⟩:=qbZ rfl rfl rfl
theorem qn9{i:Nat}:qan P (.extract x i) id dst ⟨env,hp,nx,n⟩ K=∃d,qjt (qab env x) i=some d∧qai n dst=true∧K .normal ⟨qdF dst d env,hp,nx,n⟩:=qbZ rfl rfl rfl
theorem qix{lo hi:Option Operand}:qan P (.slice t x lo hi none) id dst ⟨env,hp,nx,n⟩ K=∃d,qiU P (lkH hp) t (qab env x) (lo.map (qab env)) (hi.map (qab env))=some d∧qai n dst=true∧K .normal ⟨qdF dst d env,hp,nx,n⟩:=qbZ rfl rfl rfl
theorem qmF{fn:Fn}{xs ys:List Operand}:qan P (.makeFunc fn xs.toArray ys.toArray) id dst ⟨env,hp,nx,n⟩ K=(qai n dst=true∧K .normal ⟨qdF dst (.clo fn (xs.map (qab env)) (ys.map (qab env))) env,hp,nx,n⟩):=rfl
theorem qpE:qan P (.lookup t x y false) id dst ⟨env,hp,nx,n⟩ K=∃d,qim P (lkH hp) t (qab env x) (qab env y)=some d∧qai n dst=true∧K .normal ⟨qdF dst d env,hp,nx,n⟩:=qbZ rfl rfl rfl
theorem qmG:qan P (.call {callee:=.builtin .len,args:= #[x],argTypes:= #[t]}) id dst ⟨env,hp,nx,n⟩ K=∃d,qyW P (lkH hp) t (qab env x)=some d∧qai n dst=true∧K .normal ⟨qdF dst d env,hp,nx,n⟩:=qbZ rfl rfl rfl
theorem qqP{xs:List Operand}{ts:Array TypeId}:qan P (.call {callee:=.builtin .min,args:=(x::xs).toArray,argTypes:=ts}) id dst ⟨env,hp,nx,n⟩ K=∃d,qgV qsd (qab env x) (xs.map (qab env))=some d∧qai n dst=true∧K .normal ⟨qdF dst d env,hp,nx,n⟩:=qbZ rfl rfl rfl
theorem qqQ{xs:List Operand}{ts:Array TypeId}:qan P (.call {callee:=.builtin .max,args:=(x::xs).toArray,argTypes:=ts}) id dst ⟨env,hp,nx,n⟩ K=∃d,qgV qse (qab env x) (xs.map (qab env))=some d∧qai n dst=true∧K .normal ⟨qdF dst d env,hp,nx,n⟩:=qbZ rfl rfl rfl
theorem qsw{parts:List (Nat×Operand)}:qan P (.build t parts.toArray) id dst ⟨env,hp,nx,n⟩ K=∃d,qiW P t (parts.map fun(i,x)=>(i,qab env x))=some d∧qai n dst=true∧K .normal ⟨qdF dst d env,hp,nx,n⟩:=by
 apply propext
 simp only[qan]
 cases qiW P t (parts.map fun(i,x)=>(i,qab env x))<;>simp[qcp]
theorem qsx:qan P (.alloc t) id dst ⟨env,hp,nx,n⟩ K=∃z,qjh P t=some z∧(known z=true∧0<(qah z).length)∧qai n dst=true∧K .normal ⟨qdF dst (.op id 0 0) env,(id,⟨(qah z).length,qal [qah z],[qah z]⟩)::hp,nx,n⟩:=by
 apply propext
 simp only[qan,op0,op1,qpx]
 cases qjh P t with
 |none=>simp[qlg]
 |some z=>
  simp only[Option.bind_some,Option.some.injEq,exists_eq_left']
  by_cases h:known z=true∧0<(qah z).length
  ·simp only[qcp,qw7,if_true,h,true_and,and_self]
  ·simp only[h,false_and,if_false,qlg]
theorem qxk:qan P (.box t x) id dst ⟨env,hp,nx,n⟩ K=((known (qab env x)=true∧0<(qah (qab env x)).length)∧qai n dst=true∧K .normal ⟨qdF dst (.op id 0 0) env,(id,⟨(qah (qab env x)).length,qal [qah (qab env x)],[qah (qab env x)]⟩)::hp,nx,n⟩):=by
 apply propext
 simp only[qan,op0,op1,qpx]
 by_cases h:known (qab env x)=true∧0<(qah (qab env x)).length
 ·simp only[qcp,qw7,if_true,h,true_and,and_self]
 ·simp only[h,false_and,if_false,qlg]
theorem qsy:qan P (.store t x y) id dst ⟨env,hp,nx,n⟩ K=∃bb,qiX P (lkH hp) t (qab env x) (qab env y)=some bb∧qai n dst=true∧K .normal ⟨qdF dst .skip env,qjl bb.1 bb.2 hp,nx,n⟩:=by
 apply propext
 simp only[qan]
 cases qiX P (lkH hp) t (qab env x) (qab env y)with
 |none=>simp
 |some bb=>obtain⟨b,blk⟩:=bb;simp[qcp]
end
end
end Go.Pv

import Derived.Test.YtfklpkgdobdbpaaGreatCBX
/- Part of the proofs over YtfklpkgdobdbpaaGreat: CFactsB, SupPwC, SupPwH, N83. -/
set_option linter.unusedVariables false
set_option linter.unusedSimpArgs false
set_option linter.unnecessarySimpa false
open Go Go.Proofs Go.Pv
namespace Go.Pv.Tf
instance qMU:TSh Tryz.prog 5 .one:=⟨by kernel_rfl⟩
instance qMP:TCells Tryz.prog 29 1:=⟨by kernel_rfl,by decide⟩
instance qMQ:TCells Tryz.prog 32 1:=⟨by kernel_rfl,by decide⟩
instance qMR:TCells Tryz.prog 34 12:=⟨by kernel_rfl,by decide⟩
instance qMS:TZero Tryz.prog 34 (.agg [.int .i64 0,.int .i64 0,.int .i64 0,.int .i64 0,.int .i64 0,.nilsl,.nilsl,.nilsl,.nilsl,.nilsl,.nilsl,.nilsl]):=⟨by kernel_rfl,rfl,by decide⟩
instance qMT:TArr Tryz.prog 60 2 1:=⟨5,by kernel_rfl,by kernel_rfl,by decide⟩
instance qMK:TEq Tryz.prog 128 [.i,.i]:=⟨by kernel_rfl⟩
end Go.Pv.Tf
namespace Go.Pv
section
variable {P:Program}{E:St→St→Prop}{K:X→St→Prop}{env:Env}{hp:Hp}{nx n id:Nat}{dst:Option Tmp}{all rest:List Oper}
theorem qLw{rv:List ResultVar}{st:St}{r r':D}(h:Fin P rv st r')(e:r'=r):qg0 P rv (.ret r) .normal st:=⟨r,rfl,e▸h⟩
end
section
variable {P:Program}{w:World}{t e:TypeId}
theorem qLb{α:Type}{n k:Nat}{ok:α→Prop}{f:α→List D}(ht:P.underlying t=some (.array n e))(he:Reads P e ok f)(hk:P.cellsOf e=k)(hc:P.cellsOf t=n*k):Reads P t (fun l:List α=>l.length=n∧∀a∈l,ok a) (fun l=>l.flatMap f):=by
 have len:∀l:List α,(∀a∈l,ok a)→(l.flatMap f).length=l.length*k:=fun l=>by
  induction l with
  |nil=>intro _;simp
  |cons a l ih=>intro h;rw[List.flatMap_cons,List.length_append,he.k a (h a (by simp)),hk,ih fun a ha=>h a (by simp[ha]),List.length_cons,Nat.succ_mul,Nat.add_comm]
 refine⟨fun{H enc w base spare held fuel cs x} hx=>?_,fun l hl=>by rw[len l hl.2,hl.1,hc]⟩
 obtain⟨xs,m,_,_,hl,hxs,hf⟩:=DataW.trod_array ht hx
 rw[hc]at hl
 obtain⟨l,hll,hp⟩:=quG (p:=fun i a=>ok a∧qBR w ((cs.drop (i*k)).take k) (f a)) (n:=n) fun i hi=>by
  have:=hf i hi
  rw[List.getElem?_eq_getElem (by omega),hk]at this
  exact he.h this
 refine⟨l,⟨hll,fun a ha=>by obtain⟨i,hi,rfl⟩:=List.mem_iff_getElem.1 ha;exact(hp i hi).1⟩,?_⟩
 have key:∀(l:List α) (o:Nat) (cs:List Value),o*k+l.length*k=cs.length→(∀i (hi:i<l.length),ok l[i]∧qBR w ((cs.drop ((o+i)*k)).take k) (f l[i]))→qBR w (cs.drop (o*k)) (l.flatMap f):=by
  intro l
  induction l with
  |nil=>
   intro o cs hcs _
   refine⟨by simp;simp at hcs;omega,fun i v d h1 h2=>by simp at h2⟩
  |cons a l ih=>
   intro o cs hcs h
   have h0:=h 0 (by simp)
   simp only[Nat.add_zero,List.getElem_cons_zero]at h0
   have h1:=ih (o+1) cs (by rw[Nat.add_mul,Nat.one_mul];rw[List.length_cons,Nat.add_mul,Nat.one_mul]at hcs;omega) fun i hi=>by
    have:=h (i+1) (by simp;omega)
    rw[show o+1+i=o+(i+1)by omega]
    simpa using this
   have e1:cs.drop (o*k)=(cs.drop (o*k)).take k++cs.drop ((o+1)*k):=by
    conv=>lhs;rw[←List.take_append_drop k (cs.drop (o*k))]
    rw[List.drop_drop,Nat.add_mul,Nat.one_mul]
   rw[e1,List.flatMap_cons]
   have hla:((cs.drop (o*k)).take k).length=(f a).length:=h0.2.1
   refine⟨by simp only[List.length_append,h0.2.1,h1.1],fun i v d e2 e3=>?_⟩
   rw[List.getElem?_append]at e2 e3
   rw[hla]at e2
   split at e2
   ·rename_i hi
    rw[if_pos hi]at e3
    exact h0.2.2 i v d e2 e3
   ·rename_i hi
    rw[if_neg hi]at e3
    exact h1.2 _ v d e2 e3
 have:=key l 0 cs (by rw[hll];omega) fun i hi=>by rw[Nat.zero_add];exact hp i hi
 simpa using this
end
end Go.Pv
set_option maxHeartbeats 8000000
set_option maxRecDepth 100000
set_option linter.unusedSimpArgs false
set_option linter.unusedVariables false
namespace Go.Pv.Soil
theorem qKK{s:Site}{l:List Cut}:∀{n:Nat},qcv s l n=none→∀k,k<n→qyG s l k=none
 |0,_,k,hk=>by omega
 |n+1,h,k,hk=>by
  rw[qcv,qwo]at h
  rcases Nat.lt_succ_iff_lt_or_eq.1 hk with h'|rfl
  ·exact qKK h.1 k h'
  ·exact Option.map_eq_none_iff.1 h.2
theorem qKC{s:Site}{l:List Cut}:∀{n:Nat} {k:Nat} {r c:Int},n≤l.length→qcv s l n=some (k,r,c)→r≠0
 |0,k,r,c,_,h=>by cases h
 |n+1,k,r,c,hn,h=>by
  rw[qcv]at h
  rcases qbB h with h|h
  ·exact qKC (by omega) h
  ·obtain⟨v,hv,e⟩:=Option.map_eq_some_iff.1 h
   injection e with e1 e2
   injection e2 with e2 e3
   rw[qwH (show n<l.length by omega)]at hv
   rw[←e2]
   split at hv
   ·injection hv with hv;rw[←hv];simp
   ·split at hv
    ·injection hv with hv;rw[←hv];simp
    ·exact qF3 hv
end Go.Pv.Soil

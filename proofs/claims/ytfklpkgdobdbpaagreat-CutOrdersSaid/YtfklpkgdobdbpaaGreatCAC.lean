import Derived.OpenShut
import Derived.Below
import Derived.ChangeOld
import Derived.Carry
import Derived.Handed
import Derived.ProofKit
import Derived.ChangeShapes
import Derived.RowKit
import GoSem.Core.Float
import Derived.Recover
import Derived.Test.YtfklpkgdobdbpaaGreatCAB
/- Part of the proofs over YtfklpkgdobdbpaaGreat: PwD, PwE, PwF, PwG, PwAa, PwH, PwJ, PwK, PwL, PwM, PwN, PwO, PwP, PwQ, PwR, PwS, PwT, PwU, PwI, PvSq, PwV, PwW, PxC, PxD, PxE, PyB, PyC, PyD, PyE, PyI, PyJ, PyF, PyG, PyH, PyK. -/
set_option linter.unusedVariables false
set_option linter.unusedSimpArgs false
set_option linter.unnecessarySimpa false
namespace Go.Pv
class TSh (P:Program) (t:TypeId) (s:outParam Sh):Prop where h:sh P t=s
class TSlice (P:Program) (t:TypeId) (e:outParam TypeId) (k:outParam Nat):Prop where
 u:P.underlying t=some (.slice e)
 c:P.cellsOf e=k
 p:0<k
class TField (P:Program) (t:TypeId) (f:Nat) (o:outParam Nat) (t':outParam TypeId):Prop where
 h:qmx P t f=some (o,t')
 c:P.cellsOf t'≠0
class TZero (P:Program) (t:TypeId) (z:outParam D):Prop where
 h:qjX P t=some z
 k:known z=true
 c:0<(qai z).length
class TLay (P:Program) (t:TypeId) (z:outParam (List D)) (pl:outParam (List (Nat×Nat))):Prop where h:qG9 P t=some (z,pl)
class TCells (P:Program) (t:TypeId) (k:outParam Nat):Prop where
 h:P.cellsOf t=k
 p:0<k
theorem kne{a k:Nat}(h:a=k)(hk:k≠0):a≠0:=h▸hk
class TInt (P:Program) (t:TypeId) (k:outParam IntKind):Prop where h:P.underlying t=some (.int k)
section
variable {P:Program}{E:St→St→Prop}{K:X→St→Prop}{env:Env}{hp:Hp}{nx n id:Nat}{dst:Option Tmp}{all rest:List Oper}{x y z:Operand}{t t':TypeId}{d:D}{s:Tmp}
theorem qHc{op:Op}{ty:TypeId}{pos:String}{af:Array Edge}(h:qap P op id dst ⟨env,hp,nx,n⟩ (qA9 P all rest (id+32) K)):
  qaP P all ({dst:=dst,op:=op,type:=ty,pos:=pos,after:=af,guard:=none}::rest) id ⟨env,hp,nx,n⟩ K:=by rw[que];exact h
theorem qCj(h:qaP P all rest id ⟨env,hp,nx,n⟩ K):qA9 P all rest id K .normal ⟨env,hp,nx,n⟩:=h
theorem qEr(h:K .normal ⟨env,hp,id,n⟩):qaP P all [] id ⟨env,hp,nx,n⟩ K:=h
theorem qqS{f:St→Prop}{st:St}(h:f st):qo6 f K .normal st:=h
theorem qqT{f:St→Prop}{st:St}(h:K .ret st):qo6 f K .ret st:=h
theorem qpf{f:St→Prop}{st:St}{i:Nat}(h:K (.exit i) st):qo6 f K (.exit i) st:=h
theorem qwh{st:St}{i:Nat}(h:K .normal st):qea i K .normal st:=h
theorem qnR{st:St}{i:Nat}(h:K .ret st):qea i K .ret st:=h
theorem qmf{st:St}{i:Nat}(h:K .normal st):qea i K (.exit i) st:=by simpa[qea]using h
theorem qkX{st:St}{i j:Nat}(hne:(j==i)=false)(h:K (.exit j) st):qea i K (.exit j) st:=by
 have:j≠i:=by simpa using hne
 simpa[qea,this]using h
theorem qzh{st:St}(h:K .normal st):evG E P .skip K st:=h
theorem qBa{st:St}(h:K .ret st):evG E P .ret K st:=h
theorem qCk{st:St}{i:Nat}(h:K (.exit i) st):evG E P (.exit i) K st:=h
theorem qzi{st:St}{i:Nat}{c:Code}(h:evG E P c (qea i K) st):evG E P (.block i c) K st:=h
theorem qbD{i:Nat}{l:List Oper}(h:qaP P l l nx ⟨env,hp,nx,n⟩ K):evG E P (.region i l.toArray false) K ⟨env,hp,nx,n⟩:=.inl h
theorem qd5(h:qac env x=d)(hd:qak n (some s)=true)(hk:K .normal ⟨(s,d)::env,hp,nx,n⟩):qap P (.move x) id (some s) ⟨env,hp,nx,n⟩ K:=by rw[qwb,h];exact⟨hd,hk⟩
def qIu(op:BinOp)(a b:Int):Option Bool:=
 match op with
 |.eql=>some (decide (a=b))
 |.neq=>some (!decide (a=b))
 |.lss=>some (decide (a<b))
 |.leq=>some (decide (a≤b))
 |.gtr=>some (decide (b<a))
 |.geq=>some (decide (b≤a))
 |_=>none
theorem qaz{op:BinOp}(h:qoG P op t (qac env x) (qac env y)=some d)(hd:qak n (some s)=true)(hk:K .normal ⟨(s,d)::env,hp,nx,n⟩):qap P (.binOp op t x y t') id (some s) ⟨env,hp,nx,n⟩ K:=quf ⟨d,h,hd,hk⟩
theorem qEs{op:BinOp}{k:IntKind}{a b:Int}{p:Bool}(hc:qIu op a b=some p)(h1:qac env x=.int k a)(h2:qac env y=.int k b)(hd:qak n (some s)=true)(hk:K .normal ⟨(s,(.bool p))::env,hp,nx,n⟩):
  qap P (.binOp op t x y t') id (some s) ⟨env,hp,nx,n⟩ K:=qaz (d:=.bool p) (by rw[h1,h2];cases op<;>simp only[qIu,Option.some.injEq,reduceCtorEq]at hc<;>subst hc<;>simp[qoG,qvI]) hd hk
theorem qkY{a:Int}(h: -9223372036854775808≤a∧a≤9223372036854775807):IntKind.wrap .i64 a=a:=by
 rw[IntKind.wrap_i64];omega
theorem qEt{a b:Int}(h1:qac env x=.int .i64 a)(h2:qac env y=.int .i64 b)(hd:qak n (some s)=true)(hr: -9223372036854775808≤a+b∧a+b≤9223372036854775807)(hk:K .normal ⟨(s,(.int .i64 (a+b)))::env,hp,nx,n⟩):
  qap P (.binOp .add t x y t') id (some s) ⟨env,hp,nx,n⟩ K:=qaz (d:=.int .i64 (a+b)) (by rw[h1,h2];simp[qoG,qvI,qkY hr]) hd hk
theorem qEu{a b:Int}(h1:qac env x=.int .i64 a)(h2:qac env y=.int .i64 b)(hd:qak n (some s)=true)(hr: -9223372036854775808≤a-b∧a-b≤9223372036854775807)(hk:K .normal ⟨(s,(.int .i64 (a-b)))::env,hp,nx,n⟩):
  qap P (.binOp .sub t x y t') id (some s) ⟨env,hp,nx,n⟩ K:=qaz (d:=.int .i64 (a-b)) (by rw[h1,h2];simp[qoG,qvI,qkY hr]) hd hk
theorem qEv{a b:Int}(h1:qac env x=.int .i64 a)(h2:qac env y=.int .i64 b)(hd:qak n (some s)=true)(hr: -9223372036854775808≤a*b∧a*b≤9223372036854775807)(hk:K .normal ⟨(s,(.int .i64 (a*b)))::env,hp,nx,n⟩):
  qap P (.binOp .mul t x y t') id (some s) ⟨env,hp,nx,n⟩ K:=qaz (d:=.int .i64 (a*b)) (by rw[h1,h2];simp[qoG,qvI,qkY hr]) hd hk
theorem qBb{a b:Int}(h1:qac env x=.int .i64 a)(h2:qac env y=.int .i64 b)(hd:qak n (some s)=true)(hb:b≠0)(hr: -9223372036854775808≤a.tdiv b∧a.tdiv b≤9223372036854775807)(hk:K .normal ⟨(s,(.int .i64 (a.tdiv b)))::env,hp,nx,n⟩):
  qap P (.binOp .quo t x y t') id (some s) ⟨env,hp,nx,n⟩ K:=qaz (d:=.int .i64 (a.tdiv b)) (by rw[h1,h2];simp[qoG,qvI,qkY hr,hb]) hd hk
theorem qBc{a b:Int}(h1:qac env x=.int .i64 a)(h2:qac env y=.int .i64 b)(hd:qak n (some s)=true)(hb:b≠0)(hk:K .normal ⟨(s,(.int .i64 (a.tmod b)))::env,hp,nx,n⟩):
  qap P (.binOp .rem t x y t') id (some s) ⟨env,hp,nx,n⟩ K:=qaz (d:=.int .i64 (a.tmod b)) (by rw[h1,h2];simp[qoG,qvI,hb]) hd hk
theorem qEw{a:Int}(h1:qac env x=.int .i64 a)(hd:qak n (some s)=true)(hr: -9223372036854775808≤0-a∧0-a≤9223372036854775807)(hk:K .normal ⟨(s,(.int .i64 (0-a)))::env,hp,nx,n⟩):
  qap P (.unOp .neg t x) id (some s) ⟨env,hp,nx,n⟩ K:=by rw[qpc];exact⟨.int .i64 (0-a),by rw[h1];simp only[unD,qkY hr],hd,hk⟩
theorem qEx{p:Bool}(h1:qac env x=.bool p)(hd:qak n (some s)=true)(hk:K .normal ⟨(s,(.bool !p))::env,hp,nx,n⟩):
  qap P (.unOp .not t x) id (some s) ⟨env,hp,nx,n⟩ K:=by rw[qpc];exact⟨.bool !p,by rw[h1];rfl,hd,hk⟩
theorem qCl{p q:Bool}(h:qac env x=.bool p)(hy:(if p=true then qac env y else qac env z)=.bool q)(hd:qak n (some s)=true)(hk:K .normal ⟨(s,.bool q)::env,hp,nx,n⟩):qap P (.pick x y z) id (some s) ⟨env,hp,nx,n⟩ K:=by
 rw[qwc];exact⟨.bool q,by rw[h,←hy];rfl,hd,hk⟩
theorem qwi{sh':Sh}{cs:List D}[hs:TSh P t sh'](h:qac env x=.ptr cs)(hc:qa5 sh' cs=some d)(hd:qak n (some s)=true)(hk:K .normal ⟨(s,d)::env,hp,nx,n⟩):qap P (.load t x) id (some s) ⟨env,hp,nx,n⟩ K:=by
 rw[qpb];exact⟨d,by rw[h];simp only[qhS,hs.h];exact hc,hd,hk⟩
theorem qfJ{sh':Sh}{b row off:Nat}{blk:Blk}[hs:TSh P t sh'](h:qac env x=.op b row off)(hb:lkH hp b=some blk)(hc:qa5 sh' ((qb6 blk.rows row).drop off)=some d)(hd:qak n (some s)=true)(hk:K .normal ⟨(s,d)::env,hp,nx,n⟩):
  qap P (.load t x) id (some s) ⟨env,hp,nx,n⟩ K:=by
 rw[qpb];exact⟨d,by rw[h];simp only[qhS,hs.h,hb];exact hc,hd,hk⟩
theorem qpg{f o:Nat}{t':TypeId}{cs:List D}[hf:TField P t f o t'](h:qac env x=.ptr cs)(hd:qak n (some s)=true)(hk:K .normal ⟨(s,(.ptr (cs.drop o)))::env,hp,nx,n⟩):qap P (.fieldAddr t x f) id (some s) ⟨env,hp,nx,n⟩ K:=by
 rw[qhc];exact⟨_,by rw[h];simp only[qdz,hf.h,if_neg hf.c],hd,hk⟩
theorem qj3{f o:Nat}{t':TypeId}{b row off:Nat}{blk:Blk}[hf:TField P t f o t'](h:qac env x=.op b row off)(hb:lkH hp b=some blk)(hd:qak n (some s)=true)(hk:K .normal ⟨(s,(.op b row (off+o)))::env,hp,nx,n⟩):
  qap P (.fieldAddr t x f) id (some s) ⟨env,hp,nx,n⟩ K:=by
 rw[qhc];exact⟨_,by rw[h];simp[qdz,hf.h,hf.c,hb],hd,hk⟩
theorem qkc{f o:Nat}{t':TypeId}{sh':Sh}{cs:List D}[hf:TField P t f o t'][hs:TSh P t' sh'](h:qac env x=.agg cs)(hc:qa5 sh' (cs.drop o)=some d)(hd:qak n (some s)=true)(hk:K .normal ⟨(s,d)::env,hp,nx,n⟩):
  qap P (.field t x f) id (some s) ⟨env,hp,nx,n⟩ K:=by
 rw[qug];exact⟨_,by rw[h];simp only[qoK,hf.h,hs.h];exact hc,hd,hk⟩
theorem qsh{α:Type}{e:TypeId}{k:Nat}{l:List α}{f:α→List D}{ik:IntKind}{i:Int}[hs:TSlice P t e k](h:qac env x=.sl (l.map f))(h2:qac env y=.int ik i)(hk:∀a,(f a).length=k)(hd:qak n (some s)=true)
  (hi:0≤i∧i<l.length) (hc:∀(hlt:i.toNat<l.length),K .normal ⟨(s,(.ptr (f l[i.toNat])))::env,hp,nx,n⟩):qap P (.indexAddr t x y) id (some s) ⟨env,hp,nx,n⟩ K:=by
 have hlt:i.toNat<l.length:=by omega
 have hg:qb6 (l.map f) i.toNat=f l[i.toNat]:=by simp[qb6,List.getD_eq_getElem?_getD,hlt]
 rw[qe6]
 refine⟨.ptr (f l[i.toNat]),?_,hd,hc hlt⟩
 rw[h,h2]
 simp only[qdc,hs.u,hg]
 rw[if_pos]
 exact⟨hi.1,by simpa using hi.2,by rw[hk,hs.c],by rw[hs.c];exact hs.p⟩
theorem qgo{e:TypeId}{k:Nat}{b off len:Nat}{blk:Blk}{ik:IntKind}{i:Int}[hs:TSlice P t e k](h:qac env x=.os b off len)(h2:qac env y=.int ik i)(hb:lkH hp b=some blk)(hd:qak n (some s)=true)
  (hkk:blk.k=k) (hi:(0≤i∧i<len)∧off+len≤blk.rows.length) (hc:K .normal ⟨(s,(.op b (off+i.toNat) 0))::env,hp,nx,n⟩):qap P (.indexAddr t x y) id (some s) ⟨env,hp,nx,n⟩ K:=by
 rw[qe6]
 refine⟨.op b (off+i.toNat) 0,?_,hd,hc⟩
 rw[h,h2]
 simp only[qdc,hs.u,hb]
 rw[if_pos]
 exact⟨hi.1.1,hi.1.2,hi.2,by rw[hkk,hs.c],by rw[hs.c];exact hs.p⟩
theorem qEy{α:Type}{e:TypeId}{k:Nat}{l:List α}{f:α→List D}[hs:TSlice P t e k](h:qac env x=.sl (l.map f))(hd:qak n (some s)=true)(hk:K .normal ⟨(s,(.int .i64 l.length))::env,hp,nx,n⟩):
  qap P (.call {callee:=.builtin .len,args:= #[x],argTypes:= #[t]}) id (some s) ⟨env,hp,nx,n⟩ K:=by
 rw[qnP];exact⟨_,by rw[h];simp[qA0,hs.u],hd,hk⟩
theorem qul{e:TypeId}{k:Nat}{b off len:Nat}{blk:Blk}[hs:TSlice P t e k](h:qac env x=.os b off len)(hb:lkH hp b=some blk)(hd:qak n (some s)=true)(hk:K .normal ⟨(s,(.int .i64 len))::env,hp,nx,n⟩):
  qap P (.call {callee:=.builtin .len,args:= #[x],argTypes:= #[t]}) id (some s) ⟨env,hp,nx,n⟩ K:=by
 rw[qnP];exact⟨_,by rw[h];simp[qA0,hs.u,hb],hd,hk⟩
theorem qum{i:Nat}(h:qj7 (qac env x) i=some d)(hd:qak n (some s)=true)(hk:K .normal ⟨(s,d)::env,hp,nx,n⟩):qap P (.extract x i) id (some s) ⟨env,hp,nx,n⟩ K:=by rw[qpd];exact⟨d,h,hd,hk⟩
theorem qh9{parts:List (Nat×Operand)}{zs cs:List D}{pl:List (Nat×Nat)}[hl:TLay P t zs pl](h:qnx (pl[·]?) zs (parts.map fun(i,x)=>(i,qac env x))=some cs)(hd:qak n (some s)=true)(hk:K .normal ⟨(s,(.agg cs))::env,hp,nx,n⟩):
  qap P (.build t parts.toArray) id (some s) ⟨env,hp,nx,n⟩ K:=by
 rw[quh];exact⟨.agg cs,by simp only[qjz,hl.h,Option.bind_some,h,Option.map_some],hd,hk⟩
theorem qzj{zd:D}{cs:List D}{fl:Bool}[hz:TZero P t zd](hcs:qai zd=cs)(hfl:qan [cs]=fl)(hd:qak n (some s)=true)(hk:K .normal ⟨(s,(.op id 0 0))::env,(id,⟨cs.length,fl,[cs]⟩)::hp,nx,n⟩):qap P (.alloc t) id (some s) ⟨env,hp,nx,n⟩ K:=by
 subst hcs hfl
 rw[qui];exact⟨zd,hz.h,⟨hz.k,hz.c⟩,hd,hk⟩
theorem qmR{v:D}{cs:List D}{fl:Bool}(h:qac env x=v)(hkn:known v=true)(hcs:qai v=cs)(hp0:0<cs.length)(hfl:qan [cs]=fl)(hd:qak n (some s)=true)(hk:K .normal ⟨(s,(.op id 0 0))::env,(id,⟨cs.length,fl,[cs]⟩)::hp,nx,n⟩):
  qap P (.box t x) id (some s) ⟨env,hp,nx,n⟩ K:=by
 subst h hcs hfl
 rw[qzf];exact⟨⟨hkn,hp0⟩,hd,hk⟩
theorem qnS{b row off k:Nat}{v:D}{blk:Blk}{rows:List (List D)}{fl:Bool}[hc:TCells P t k](ha:qac env x=.op b row off)(hv:qac env y=v)(hb:lkH hp b=some blk)(hkn:known v=true)(hl:(qai v).length=k)(h1:(qai v).all qhk=true)
  (hfit:off+k≤blk.k) (hrow:row<blk.rows.length) (hrows:blk.rows.set row (qbo (qb6 blk.rows row) off (qai v))=rows) (hfl:(blk.flat&&(qai v).all qkw)=fl) (hk:K .normal ⟨env,qj1 b ⟨blk.k,fl,rows⟩ hp,nx,n⟩):
  qap P (.store t x y) id none ⟨env,hp,nx,n⟩ K:=by
 subst hv hrows hfl
 rw[quj]
 refine⟨(b,_),?_,rfl,hk⟩
 rw[ha]
 simp only[qjA,hb,Option.bind_some]
 rw[if_pos]
 rw[hc.h]
 exact⟨hrow,hkn,hl,hc.p,hfit,h1⟩
theorem qwj{k:IntKind}{a:Int}(h:qac env x=.int k a)(hd:qak n (some s)=true)(hk:K .normal ⟨(s,.int k a)::env,hp,nx,n⟩):qap P (.move x) id (some s) ⟨env,hp,nx,n⟩ K:=qd5 h hd hk
theorem qun{a:Bool}(h:qac env x=.bool a)(hd:qak n (some s)=true)(hk:K .normal ⟨(s,.bool a)::env,hp,nx,n⟩):qap P (.move x) id (some s) ⟨env,hp,nx,n⟩ K:=qd5 h hd hk
theorem qzk{a:List (List D)}(h:qac env x=.sl a)(hd:qak n (some s)=true)(hk:K .normal ⟨(s,.sl a)::env,hp,nx,n⟩):qap P (.move x) id (some s) ⟨env,hp,nx,n⟩ K:=qd5 h hd hk
theorem qzl{b o l:Nat}(h:qac env x=.os b o l)(hd:qak n (some s)=true)(hk:K .normal ⟨(s,.os b o l)::env,hp,nx,n⟩):qap P (.move x) id (some s) ⟨env,hp,nx,n⟩ K:=qd5 h hd hk
theorem qwk{a:List D}(h:qac env x=.tup a)(hd:qak n (some s)=true)(hk:K .normal ⟨(s,.tup a)::env,hp,nx,n⟩):qap P (.move x) id (some s) ⟨env,hp,nx,n⟩ K:=qd5 h hd hk
theorem qwl{a:ByteArray}(h:qac env x=.str a)(hd:qak n (some s)=true)(hk:K .normal ⟨(s,.str a)::env,hp,nx,n⟩):qap P (.move x) id (some s) ⟨env,hp,nx,n⟩ K:=qd5 h hd hk
theorem qqU(h:qac env x=.nilsl)(hd:qak n (some s)=true)(hk:K .normal ⟨(s,.nilsl)::env,hp,nx,n⟩):qap P (.move x) id (some s) ⟨env,hp,nx,n⟩ K:=qd5 h hd hk
theorem qwm{a:List D}(h:qac env x=.ptr a)(hd:qak n (some s)=true)(hk:K .normal ⟨(s,.ptr a)::env,hp,nx,n⟩):qap P (.move x) id (some s) ⟨env,hp,nx,n⟩ K:=qd5 h hd hk
theorem qzm{b r o:Nat}(h:qac env x=.op b r o)(hd:qak n (some s)=true)(hk:K .normal ⟨(s,.op b r o)::env,hp,nx,n⟩):qap P (.move x) id (some s) ⟨env,hp,nx,n⟩ K:=qd5 h hd hk
theorem qwn{f:Fn}{a b:List D}(h:qac env x=.clo f a b)(hd:qak n (some s)=true)(hk:K .normal ⟨(s,.clo f a b)::env,hp,nx,n⟩):qap P (.move x) id (some s) ⟨env,hp,nx,n⟩ K:=qd5 h hd hk
theorem qHd(h:qap P (.move x) id (some s) ⟨env,hp,nx,n⟩ K):qap P (.assign x) id (some s) ⟨env,hp,nx,n⟩ K:=h
end
theorem qkZ{P:Program}{all:List Oper}{m:Nat}:∀(l:List Oper) (zs:List (List Nat)) {K K':X→St→Prop} (_:∀x st,K x st→K' x st) {id:Nat} {st:St},qdw P all m l zs id st K→qdw P all m l zs id st K'
 |[],[],_,_,h,_,_,hk=>h _ _ hk
 |[],_::_,_,_,_,_,_,hk=>hk.elim
 |_::_,[],_,_,_,_,_,hk=>hk.elim
 |o::rest,z::zs,K,K',h,id,st,hk=>by
  simp only[qdw]at hk ⊢
  exact qcU (fun x st hx=>by
   cases x with
   |normal=>exact⟨hx.1,qkZ rest zs h hx.2⟩
   |_=>exact hx) hk
theorem qjG{P:Program}{K K':X→St→Prop}(h:∀x st,K x st→K' x st){o:Op}{dst:Option Tmp}{st:St}(hk:qd4 P o dst st K):qd4 P o dst st K':=by
 unfold qd4 at hk ⊢
 split at hk
 ·split at hk
  ·obtain⟨b,blk,args',r,blk',h1,h2,h3,h4,h5,h6⟩:=hk
   exact⟨b,blk,args',r,blk',h1,h2,h3,h4,h5,qbr h h6⟩
  ·exact hk.elim
 ·exact hk.elim
theorem qjH{P:Program}{K K':X→St→Prop}(h:∀x st,K x st→K' x st){o:Op}{dst:Option Tmp}{st:St}(hk:qe5 P o dst st K):qe5 P o dst st K':=by
 unfold qe5 at hk ⊢
 split at hk
 ·split at hk
  ·obtain⟨b,blk,args',r,blk',h1,h2,h3,h4,h5,h6⟩:=hk
   exact⟨b,blk,args',r,blk',h1,h2,h3,h4,h5,qbr h h6⟩
  ·exact hk.elim
 ·exact hk.elim
theorem qph{P:Program}{K K':X→St→Prop}(h:∀x st,K x st→K' x st){o:Op}{dst:Option Tmp}{st:St}(hk:qi2 P o dst st K):qi2 P o dst st K':=by
 unfold qi2 at hk ⊢
 split at hk
 ·obtain⟨x,t,e,b,off,len,blk,h1,h2,h3,h4,h5,h6,h7,h8,h9⟩:=hk
  exact⟨x,t,e,b,off,len,blk,h1,h2,h3,h4,h5,h6,h7,h8,qbr h h9⟩
 ·exact hk.elim
theorem qup{P:Program}{K K':X→St→Prop}(h:∀x st,K x st→K' x st){o:Op}{id:Nat}{dst:Option Tmp}{st:St}(hk:qt8 P o id dst st K):qt8 P o id dst st K':=by
 unfold qt8 at hk ⊢
 split at hk
 ·exact qbr h hk
 ·obtain⟨b,rows,k',kt,et,td,h1,h2,h3,h4,h5,h6,h7,h8⟩:=hk
  exact⟨b,rows,k',kt,et,td,h1,h2,h3,h4,h5,h6,h7,qbr h h8⟩
 ·exact hk.elim
theorem qk0{P:Program}{K K':X→St→Prop}(h:∀x st,K x st→K' x st){o:Op}{dst:Option Tmp}{st:St}(hk:qha P o dst st K):qha P o dst st K':=by
 unfold qha at hk ⊢
 split at hk
 ·obtain⟨x,y,t,e,b,off,len,m,blk,new,fl,rows,h1,h2,h3,h4,h5,h6,h7,h8,h9,h10,h11,h12,h13,h14,h15,h16,h17⟩:=hk
  exact⟨x,y,t,e,b,off,len,m,blk,new,fl,rows,h1,h2,h3,h4,h5,h6,h7,h8,h9,h10,h11,h12,h13,h14,h15,h16,qbr h h17⟩
 ·exact hk.elim
theorem qdd{P:Program}{E:St→St→Prop}{all:List Oper}{m:Nat}:∀(l:List Oper) (zs:List (List Nat)) {K K':X→St→Prop} (_:∀x st,K x st→K' x st) {id:Nat} {st:St},qcD E P all m l zs id st K→qcD E P all m l zs id st K'
 |[],[],_,_,h,_,_,hk=>h _ _ hk
 |[],_::_,_,_,_,_,_,hk=>hk.elim
 |_::_,[],_,_,_,_,_,hk=>hk.elim
 |o::rest,z::zs,K,K',h,id,st,hk=>by
  simp only[qcD]at hk ⊢
  exact hk.imp (qcU (fun x st hx=>by
   cases x with
   |normal=>exact⟨hx.1,qdd rest zs h hx.2⟩
   |_=>exact hx)) (Or.imp (qjG (fun x st hx=>by
   cases x with
   |normal=>exact⟨hx.1,qdd rest zs h hx.2⟩
   |_=>exact hx)) (Or.imp (qjH (fun x st hx=>by
   cases x with
   |normal=>exact⟨hx.1,qdd rest zs h hx.2⟩
   |_=>exact hx)) (Or.imp (qk0 (fun x st hx=>by
   cases x with
   |normal=>exact⟨hx.1,qdd rest zs h hx.2⟩
   |_=>exact hx)) fun⟨s1,h1,hk⟩=>⟨s1,h1,qcU (fun x st hx=>by
   cases x with
   |normal=>exact⟨hx.1,qdd rest zs h hx.2⟩
   |_=>exact hx) hk⟩)))
theorem qfK{P:Program}{all:List Oper}:∀(l:List Oper) {K K':X→St→Prop} (_:∀x st,K x st→K' x st) {id:Nat} {st:St},qb0 P all l id st K→qb0 P all l id st K'
 |[],K,K',h,id,st,hk=>h _ _ hk
 |o::rest,K,K',h,id,st,hk=>by
  have hr:∀(x:X) (st:St),(match x with|.normal=>qb0 P all rest (id+32) st K|x=>K x st)→(match x with|.normal=>qb0 P all rest (id+32) st K'|x=>K' x st):=fun x st hx=>by
   cases x with
   |normal=>exact qfK rest h hx
   |_=>exact h _ _ hx
  unfold qb0 at hk ⊢
  simp only at hk ⊢
  refine hk.imp (fun hk=>?_) fun hk=>⟨hk.1,hk.2.imp (qjG hr) (Or.imp (qph hr) (Or.imp (qup hr) (Or.imp (qjH hr) (qk0 hr))))⟩
  cases hg:o.guard with
  |none=>rw[hg]at hk;exact qcU hr hk
  |some jw=>
   obtain⟨j,want⟩:=jw
   rw[hg]at hk
   simp only at hk ⊢
   split at hk
   ·exact⟨fun hb=>qcU hr (hk.1 hb),fun hb=>⟨(hk.2 hb).1,qfK rest h (hk.2 hb).2⟩⟩
   ·exact⟨hk.1,qfK rest h hk.2⟩
   ·exact hk.elim
theorem qk1{P:Program}{E:St→St→Prop}{all:List Oper}:∀(l:List Oper) {K K':X→St→Prop} (_:∀x st,K x st→K' x st) {id:Nat} {st:St},qh3 E P all l id st K→qh3 E P all l id st K'
 |[],_,_,_,_,_,hk=>hk.elim
 |o::rest,K,K',h,id,st,hk=>by
  rcases hk with⟨hg,hk⟩|⟨s1,h1,hk⟩
  ·exact .inl ⟨hg,qcU (fun x st hx=>by
    cases x with
    |normal=>exact qk1 rest h hx
    |_=>exact h _ _ hx) hk⟩
  ·exact .inr ⟨s1,h1,qco _ h hk⟩
theorem qqV{P:Program}{E:St→St→Prop}:∀(c:Code) (K K':X→St→Prop) (st:St),(∀x st,K x st→K' x st)→evG E P c K st→evG E P c K' st:=by
 intro c
 induction c with
 |skip=>exact fun K K' st h hk=>h _ _ hk
 |label l=>exact fun K K' st h hk=>h _ _ hk
 |region id ops draw=>
  intro K K' st h hk
  cases draw with
  |false=>exact hk.imp (qco _ h) (Or.imp (qfK _ h) (qk1 _ h))
  |true=>
   rcases hk with⟨m,h1,h2,h3⟩|⟨m,zs,h1,h2,h3⟩|⟨m,zs,h1,h2,h3⟩
   ·exact .inl ⟨m,h1,h2,qco _ (fun x st hx=>by cases x<;>first|exact qco _ h hx|exact hx) h3⟩
   ·exact .inr (.inl ⟨m,zs,h1,h2,qco _ (fun x st hx=>by cases x<;>first|exact qkZ _ _ h hx|exact hx) h3⟩)
   ·exact .inr (.inr ⟨m,zs,h1,h2,qco _ (fun x st hx=>by cases x<;>first|exact qdd _ _ h hx|exact hx) h3⟩)
 |seq a b iha ihb=>
  intro K K' st h hk
  rcases hk with hk|⟨s1,hk,hk1⟩
  ·exact .inl (iha _ _ st (fun x st hx=>by cases x<;>first|exact ihb _ _ st h hx|exact h _ _ hx) hk)
  ·exact .inr ⟨s1,iha _ _ st (fun x st hx=>by cases x<;>first|exact hx|exact h _ _ hx) hk,ihb _ _ s1 h hk1⟩
 |cond c a b iha ihb=>
  intro K K' st h hk
  obtain⟨t,h1,h2,h3⟩:=hk
  exact⟨t,h1,fun ht=>iha _ _ st h (h2 ht),fun ht=>ihb _ _ st h (h3 ht)⟩
 |block id c ih=>
  intro K K' st h hk
  refine ih _ _ st (fun x st hx=>?_) hk
  cases x with
  |exit i=>
   simp only[qea]at hx ⊢
   split at hx
   ·rename_i he;rw[if_pos he];exact h _ _ hx
   ·rename_i he;rw[if_neg he];exact h _ _ hx
  |_=>exact h _ _ hx
 |loop c ih=>
  intro K K' st h hk
  obtain⟨I,n,h1,h2⟩:=hk
  exact⟨I,n,h1,fun n s hI=>ih _ _ s (fun x st hx=>by cases x<;>first|exact hx|exact h _ _ hx) (h2 n s hI)⟩
 |exit id=>exact fun K K' st h hk=>h _ _ hk
 |ret=>exact fun K K' st h hk=>h _ _ hk
 |scope c ih=>exact fun K K' st h hk=>ih K K' st h hk
 |_=>exact fun K K' st h hk=>hk
section
variable {P:Program}{E:St→St→Prop}{K:X→St→Prop}{env:Env}{hp:Hp}{nx n id:Nat}{all:List Oper}
theorem qwo(I:Nat→St→Prop)(N:Nat){c:Code}{st:St}(s:St)(he:E st s)(h0:I N s)(h:∀n s,I n s→evG E P c (qo6 (fun st'=>∃n' s',n'<n∧E st' s'∧I n' s') K) s):evG E P (.loop c) K st:=
 ⟨I,N,⟨s,he,h0⟩,h⟩
theorem qad(N:Nat)(S:Nat→St)(C:Nat→Prop){c:Code}{st:St}(he:E st (S 0))(h0:C 0)
  (h:∀i,i≤N→C i→evG E P c (qo6 (fun st'=>i<N∧C (i+1)∧E st' (S (i+1))) K) (S i)):evG E P (.loop c) K st:=by
 refine qwo (fun m s=>∃i,i≤N∧m=N-i∧C i∧s=S i) N (S 0) he ⟨0,Nat.zero_le _,by omega,h0,rfl⟩ ?_
 rintro m s ⟨i,hi,rfl,hC,rfl⟩
 have:=h i hi hC
 have key:∀(c:Code) (f g:St→Prop) (s:St),(∀st,f st→g st)→evG E P c (qo6 f K) s→evG E P c (qo6 g K) s:=fun c f g s hfg=>qqV c _ _ s fun x st hx=>by
  cases x<;>first|exact hfg st hx|exact hx
 refine key c _ _ _ (fun st' ⟨h1,h2,h3⟩=>?_) this
 exact⟨N-(i+1),S (i+1),by omega,h3,i+1,by omega,rfl,h2,rfl⟩
theorem qCm{m:Nat}{o:Oper}{l:List Oper}{st:St}(h:qaP P all (o::List.take m l) id st K):qaP P all (List.take (m+1) (o::l)) id st K:=h
theorem qzn{l:List Oper}{st:St}(h:qaP P all [] id st K):qaP P all (List.take 0 l) id st K:=h
theorem qCn{m:Nat}{o:Oper}{l:List Oper}{st:St}(h:qaP P all (List.drop m l) id st K):qaP P all (List.drop (m+1) (o::l)) id st K:=h
theorem qzo{l:List Oper}{st:St}(h:qaP P all l id st K):qaP P all (List.drop 0 l) id st K:=h
def qqC:List Oper→List Oper
 |[]=>[]
 |o::l=>bif qhZ o.op then o::qqC l else []
def qwp:List Oper→List Oper
 |[]=>[]
 |o::l=>bif qhZ o.op then qwp l else o::l
theorem qk2:∀l:List Oper,l.take (qqC l).length=qqC l∧l.drop (qqC l).length=qwp l
 |[]=>⟨rfl,rfl⟩
 |o::l=>by
  obtain⟨h1,h2⟩:=qk2 l
  simp only[qqC,qwp]
  cases qhZ o.op
  ·exact⟨rfl,rfl⟩
  ·exact⟨by simp[h1],by simp[h2]⟩
theorem qEz{o:Oper}{l:List Oper}{st:St}(hk:qhZ o.op=true)(h:qaP P all (o::qqC l) id st K):qaP P all (qqC (o::l)) id st K:=by simp only[qqC,hk,cond_true];exact h
theorem qqW{o:Oper}{l:List Oper}{st:St}(hk:qhZ o.op=false)(h:qaP P all [] id st K):qaP P all (qqC (o::l)) id st K:=by simp only[qqC,hk,cond_false];exact h
theorem quq{st:St}(h:qaP P all [] id st K):qaP P all (qqC []) id st K:=h
theorem qEA{o:Oper}{l:List Oper}{st:St}(hk:qhZ o.op=true)(h:qaP P all (qwp l) id st K):qaP P all (qwp (o::l)) id st K:=by simp only[qwp,hk,cond_true];exact h
theorem qqX{o:Oper}{l:List Oper}{st:St}(hk:qhZ o.op=false)(h:qaP P all (o::l) id st K):qaP P all (qwp (o::l)) id st K:=by simp only[qwp,hk,cond_false];exact h
theorem qur{st:St}(h:qaP P all [] id st K):qaP P all (qwp []) id st K:=h
def qIv(P:Program)(l:List Oper)(K:X→St→Prop):X→St→Prop:=qfi fun st'=>qaP P l (qwp l) st'.nx st' K
theorem qCo{l:List Oper}(h:qaP P l (qwp l) nx ⟨env,hp,nx,n⟩ K):qIv P l K .normal ⟨env,hp,nx,n⟩:=h
theorem qsi{i:Nat}{l:List Oper}(hc:qgh l (qqC l).length=true)(hdom:(hp.all fun x=>decide (x.1<nx))=true)(h:qaP P l (qqC l) nx ⟨env,hp,nx,n⟩ (qIv P l K)):
  evG E P (.region i l.toArray true) K ⟨env,hp,nx,n⟩:=.inl ⟨(qqC l).length,hc,hdom,by rw[(qk2 l).1,(qk2 l).2];exact h⟩
def qEB(P:Program)(l:List Oper)(m:Nat)(K:X→St→Prop):X→St→Prop:=qfi fun st'=>qaP P l (l.drop m) st'.nx st' K
theorem qzp{l:List Oper}{m:Nat}(h:qaP P l (l.drop m) nx ⟨env,hp,nx,n⟩ K):qEB P l m K .normal ⟨env,hp,nx,n⟩:=h
theorem qdR(m:Nat){i:Nat}{l:List Oper}(hc:qgh l m=true)(hdom:(hp.all fun x=>decide (x.1<nx))=true)(h:qaP P l (l.take m) nx ⟨env,hp,nx,n⟩ (qEB P l m K)):
  evG E P (.region i l.toArray true) K ⟨env,hp,nx,n⟩:=.inl ⟨m,hc,hdom,h⟩
def qBd(P:Program)(l:List Oper)(m:Nat)(zs:List (List Nat))(K:X→St→Prop):X→St→Prop:=qfi fun st'=>qdw P l m (l.drop m) zs st'.nx st' K
theorem qaR{l:List Oper}{m:Nat}{zs:List (List Nat)}(h:qdw P l m (l.drop m) zs nx ⟨env,hp,nx,n⟩ K):qBd P l m zs K .normal ⟨env,hp,nx,n⟩:=h
theorem qaS(m:Nat)(zs:List (List Nat)){i:Nat}{l:List Oper}(hc:qeW l m zs=true)(hdom:(hp.all fun x=>decide (x.1<nx))=true)(h:qaP P l (l.take m) nx ⟨env,hp,nx,n⟩ (qBd P l m zs K)):
  evG E P (.region i l.toArray true) K ⟨env,hp,nx,n⟩:=.inr (.inl ⟨m,zs,hc,hdom,h⟩)
theorem qav{l l':List Oper}{m k:Nat}{o:Oper}{zs:List (List Nat)}{st:St}(h:qdw P l m (List.drop k l') zs id st K):qdw P l m (List.drop (k+1) (o::l')) zs id st K:=h
theorem qas{l l':List Oper}{m:Nat}{zs:List (List Nat)}{st:St}(h:qdw P l m l' zs id st K):qdw P l m (List.drop 0 l') zs id st K:=h
def kLn(P:Program)(l:List Oper)(m:Nat)(rest:List Oper)(zs:List (List Nat))(z:List Nat)(id:Nat)(K:X→St→Prop):X→St→Prop:=qfi fun st'=>qbP P l st' z∧qdw P l m rest zs (id+32+32*m) st' K
theorem qby{l rest:List Oper}{m:Nat}{zs:List (List Nat)}{z:List Nat}{dst:Option Tmp}{op:Op}{ty:TypeId}{pos:String}{af:Array Edge}{g:Option (Nat×Bool)}(h:qap P op id dst ⟨env,hp,nx,n⟩ (kLn P l m rest zs z id K)):
  qdw P l m ({dst:=dst,op:=op,type:=ty,pos:=pos,after:=af,guard:=g}::rest) (z::zs) id ⟨env,hp,nx,n⟩ K:=h
theorem qcv{l rest:List Oper}{m:Nat}{zs:List (List Nat)}{z:List Nat}(h1:qbP P l ⟨env,hp,nx,n⟩ z)(h2:qdw P l m rest zs (id+32+32*m) ⟨env,hp,nx,n⟩ K):kLn P l m rest zs z id K .normal ⟨env,hp,nx,n⟩:=⟨h1,h2⟩
theorem qaA{l:List Oper}{m:Nat}(h:K .normal ⟨env,hp,id,n⟩):qdw P l m [] [] id ⟨env,hp,nx,n⟩ K:=h
theorem qaw{l:List Oper}{st:St}:qbP P l st []:=trivial
theorem qa9{l:List Oper}{st:St}{j:Nat}{z:List Nat}{dst:Option Tmp}{op:Op}{ty:TypeId}{pos:String}{af:Array Edge}{g:Option (Nat×Bool)}(hj:l[j]? =some {dst:=dst,op:=op,type:=ty,pos:=pos,after:=af,guard:=g})
  (h:∀id,qap P op id dst st (qvY st)) (h2:qbP P l st z):qbP P l st (j::z):=⟨by unfold qt6;rw[hj];exact h,h2⟩
theorem qaT{s:Tmp}{d:D}{nx':Nat}(h:lkE env s=d):qvY ⟨env,hp,nx,n⟩ .normal ⟨(s,d)::env,hp,nx',n⟩:=by
 refine⟨rfl,rfl,rfl,fun t=>?_⟩
 show(if t=s then d else lkE env t)=_
 split
 ·rename_i ht;rw[ht,h]
 ·rfl
theorem qwq{op:Op}{s:Tmp}{bs:List Bool}(h0:op0 P (qac env) (lkH hp) op=none)(h1:op1 P (qac env) op=none)(h2:qmb P (qac env) (lkH hp) op=some bs)(ho:(match op with|.store .. =>false|.call _=>false|.build .. =>false|_=>true)=true)(hd:qak n (some s)=true)
  (hk:∀b∈bs,K .normal ⟨(s,.bool b)::env,hp,nx,n⟩):qap P op id (some s) ⟨env,hp,nx,n⟩ K:=by
 unfold qap
 split<;>first|(cases ho;done)|skip
 rw[h0,h1,h2]
 exact fun b hb=>⟨hd,hk b hb⟩
theorem qCp{rv:ResultVar}{k:IntKind}{a b:Int}(h:qb7 P ⟨env,hp,nx,n⟩ rv=some (.int k a))(e:a=b):qg3 P [rv] (.ret (.int k b)) .ret ⟨env,hp,nx,n⟩:=e▸qbs (qy4 h rfl rfl)
theorem qzq{rv:ResultVar}{a b:Bool}(h:qb7 P ⟨env,hp,nx,n⟩ rv=some (.bool a))(e:a=b):qg3 P [rv] (.ret (.bool b)) .ret ⟨env,hp,nx,n⟩:=e▸qbs (qy4 h rfl rfl)
theorem qCq{rv:ResultVar}{a b:ByteArray}(h:qb7 P ⟨env,hp,nx,n⟩ rv=some (.str a))(e:a=b):qg3 P [rv] (.ret (.str b)) .ret ⟨env,hp,nx,n⟩:=e▸qbs (qy4 h rfl rfl)
theorem qzr{rv:ResultVar}{k:IntKind}{a b:Int}(h:qb7 P ⟨env,hp,nx,n⟩ rv=some (.int k a))(e:a=b):qg3 P [rv] (.ret (.int k b)) .normal ⟨env,hp,nx,n⟩:=e▸qdB (qy4 h rfl rfl)
theorem qwr{rv:ResultVar}{a b:Bool}(h:qb7 P ⟨env,hp,nx,n⟩ rv=some (.bool a))(e:a=b):qg3 P [rv] (.ret (.bool b)) .normal ⟨env,hp,nx,n⟩:=e▸qdB (qy4 h rfl rfl)
end
class TStr (P:Program) (t:TypeId):Prop where u:P.underlying t=some .string
section
variable {P:Program}{K:X→St→Prop}{env:Env}{hp:Hp}{nx n id:Nat}{s:Tmp}{x y:Operand}{t:TypeId}
theorem qus{a:ByteArray}[hs:TStr P t](h:qac env x=.str a)(hd:qak n (some s)=true)(hk:K .normal ⟨(s,.int .i64 a.size)::env,hp,nx,n⟩):
  qap P (.call {callee:=.builtin .len,args:= #[x],argTypes:= #[t]}) id (some s) ⟨env,hp,nx,n⟩ K:=by
 rw[qnP];exact⟨_,by rw[h];simp[qA0,hs.u],hd,hk⟩
theorem qpi{a:ByteArray}{ik:IntKind}{i:Int}[hs:TStr P t](h:qac env x=.str a)(h2:qac env y=.int ik i)(hd:qak n (some s)=true)(hi:0≤i∧i<a.size)(hk:K .normal ⟨(s,.int .u8 (qdu a i.toNat))::env,hp,nx,n⟩):
  qap P (.index t x y) id (some s) ⟨env,hp,nx,n⟩ K:=by
 rw[qmQ];exact⟨_,by rw[h,h2];simp[qmy,hs.u,hi],hd,hk⟩
theorem qut{α:Type}{e:TypeId}{k:Nat}{l:List α}{f:α→List D}{ik:IntKind}{i:Int}[hs:TSlice P t e k](h:qac env x=.sl (l.map f))(h2:qac env y=.int ik i)(hf:∀a,(f a).length=k)(hd:qak n (some s)=true)
  (hi:0≤i∧i≤l.length) (hk:K .normal ⟨(s,.sl ((l.take i.toNat).map f))::env,hp,nx,n⟩):qap P (.slice t x none (some y) none) id (some s) ⟨env,hp,nx,n⟩ K:=by
 rw[qi6]
 refine⟨.sl ((l.take i.toNat).map f),?_,hd,hk⟩
 simp only[Option.map_none,Option.map_some,h,h2,qjx,hs.u,qd9]
 rw[if_pos hi.1]
 simp only[Nat.zero_le,true_and,List.length_map,List.drop_zero]
 rw[if_pos]
 ·rw[List.map_take]
 ·refine⟨by omega,by rw[hs.c];exact hs.p,fun r hr=>?_⟩
  obtain⟨a,_,rfl⟩:=List.mem_map.1 hr
  rw[hf,hs.c]
theorem quu{α:Type}{e:TypeId}{k:Nat}{l:List α}{f:α→List D}{ik:IntKind}{i:Int}[hs:TSlice P t e k](h:qac env x=.sl (l.map f))(h2:qac env y=.int ik i)(hf:∀a,(f a).length=k)(hd:qak n (some s)=true)
  (hi:0≤i∧i≤l.length) (hk:K .normal ⟨(s,.sl ((l.drop i.toNat).map f))::env,hp,nx,n⟩):qap P (.slice t x (some y) none none) id (some s) ⟨env,hp,nx,n⟩ K:=by
 rw[qi6]
 refine⟨.sl ((l.drop i.toNat).map f),?_,hd,hk⟩
 simp only[Option.map_none,Option.map_some,h,h2,qjx,hs.u,qd9]
 rw[if_pos hi.1]
 simp only[List.length_map,Nat.le_refl,true_and]
 rw[if_pos]
 ·rw[List.map_drop,List.take_of_length_le (by simp)]
 ·refine⟨by omega,by rw[hs.c];exact hs.p,fun r hr=>?_⟩
  obtain⟨a,_,rfl⟩:=List.mem_map.1 hr
  rw[hf,hs.c]
theorem qCr{fn:Fn}{xs ys:List Operand}{us bs:List D}(h1:xs.map (qac env)=us)(h2:ys.map (qac env)=bs)(hd:qak n (some s)=true)(hk:K .normal ⟨(s,.clo fn us bs)::env,hp,nx,n⟩):
  qap P (.makeFunc fn xs.toArray ys.toArray) id (some s) ⟨env,hp,nx,n⟩ K:=by
 subst h1 h2
 rw[qnO];exact⟨hd,hk⟩
end
def qmg(ys:List D):Prop:=∀(hp:Nat→Option Blk) (m:Nat),qbX hp (m+16) ys=some ys
mutual
theorem qsj{g:Sg}:∀{d:D},qdi d=true→ren g d=d
 |.os ..,h=>by simp[qdi]at h
 |.op ..,h=>by simp[qdi]at h
 |.om _,h=>by simp[qdi]at h
 |.agg cs,h=>by simp only[ren,qbE (ds:=cs) (by simpa[qdi]using h)]
 |.tup cs,h=>by simp only[ren,qbE (ds:=cs) (by simpa[qdi]using h)]
 |.clo fn xs ys,h=>by
  simp only[qdi,Bool.and_eq_true]at h
  simp only[ren,qbE h.1,qbE h.2]
 |.iface t d,h=>by simp only[ren,qsj (d:=d) (by simpa[qdi]using h)]
 |.undef,_|.skip,_|.int ..,_|.bool _,_|.str _,_|.float ..,_|.sl _,_|.nilsl,_|.ptr _,_|.nilptr,_|.nilfunc,_|.nilif,_|.fr ..,_=>by simp only[ren]
theorem qbE{g:Sg}:∀{ds:List D},qbV ds=true→qhb g ds=ds
 |[],_=>rfl
 |d::ds,h=>by
  simp only[qbV,Bool.and_eq_true]at h
  simp only[qhb,qsj h.1,qbE h.2]
end
section
variable {P:Program}{K:X→St→Prop}{env:Env}{hp:Hp}{nx n id:Nat}{s:Tmp}{x y f:Operand}{t:TypeId}
theorem qhr{ts:Array TypeId}{g:FuncId}{ys:List D}{d1 r:D}(hf:qac env f=.clo (.func g) [] ys)(hx:pur (lkH hp) 63 (qac env x)=some d1)(hst:qmg ys)(hc:Contract P g (d1::ys) (.ret r))(hr:qbY r=true)(hw:qqB r≤32)(hd:qak n (some s)=true)
  (h:K .normal ⟨(s,(qaO id r).1)::env,(qaO id r).2++hp,nx,n⟩):qap P (.call {callee:=.value f,args:= #[x],argTypes:=ts}) id (some s) ⟨env,hp,nx,n⟩ K:=by
 refine qi7 (args:=[x]) hf ?_ hc (by rw[hr,Bool.or_true]) hw hd h
 simp only[List.map_cons,List.map_nil,List.nil_append,List.singleton_append,qbX,hx,Option.bind_some]
 rw[hst (lkH hp) 47]
 rfl
theorem qbt{args:List Operand}{ts:Array TypeId}{g:FuncId}{args':List D}{r:D}(hp':qbX (lkH hp) 64 (args.map (qac env))=some args')(hc:Contract P g args' (.ret r))(hr:(qbV (args.map (qac env))||qbY r)=true)(hw:qqB r≤32)(hd:qak n (some s)=true)
  (h:K .normal ⟨(s,(qaO id r).1)::env,(qaO id r).2++hp,nx,n⟩):qap P (.call {callee:=.value (.func g),args:=args.toArray,argTypes:=ts}) id (some s) ⟨env,hp,nx,n⟩ K:=
 qi7 (xs:=[]) (ys:=[]) rfl (by simpa using hp') hc (by simpa using hr) hw hd h
theorem qa3{ts:Array TypeId}{g:FuncId}{ys:List D}{d1:D}{q:Bool}(hf:qac env f=.clo (.func g) [] ys)(hx:pur (lkH hp) 63 (qac env x)=some d1)(hst:qmg ys)(hc:Contract P g (d1::ys) (.ret (.bool q)))(hd:qak n (some s)=true)
  (h:K .normal ⟨(s,.bool q)::env,hp,nx,n⟩):qap P (.call {callee:=.value f,args:= #[x],argTypes:=ts}) id (some s) ⟨env,hp,nx,n⟩ K:=qhr hf hx hst hc rfl (zL rfl) hd h
theorem qmS{ts:Array TypeId}{g:FuncId}{ys:List D}{d1:D}{k:IntKind}{q:Int}(hf:qac env f=.clo (.func g) [] ys)(hx:pur (lkH hp) 63 (qac env x)=some d1)(hst:qmg ys)(hc:Contract P g (d1::ys) (.ret (.int k q)))(hd:qak n (some s)=true)
  (h:K .normal ⟨(s,.int k q)::env,hp,nx,n⟩):qap P (.call {callee:=.value f,args:= #[x],argTypes:=ts}) id (some s) ⟨env,hp,nx,n⟩ K:=qhr hf hx hst hc rfl (zL rfl) hd h
theorem qgN{ts:Array TypeId}{g:FuncId}{ys:List D}{d1:D}{q:ByteArray}(hf:qac env f=.clo (.func g) [] ys)(hx:pur (lkH hp) 63 (qac env x)=some d1)(hst:qmg ys)(hc:Contract P g (d1::ys) (.ret (.str q)))(hd:qak n (some s)=true)
  (h:K .normal ⟨(s,.str q)::env,hp,nx,n⟩):qap P (.call {callee:=.value f,args:= #[x],argTypes:=ts}) id (some s) ⟨env,hp,nx,n⟩ K:=qhr hf hx hst hc rfl (zL rfl) hd h
theorem qae{args:List Operand}{ts:Array TypeId}{g:FuncId}{args':List D}{q:Bool}(hp':qbX (lkH hp) 64 (args.map (qac env))=some args')(hc:Contract P g args' (.ret (.bool q)))(hd:qak n (some s)=true)
  (h:K .normal ⟨(s,.bool q)::env,hp,nx,n⟩):qap P (.call {callee:=.value (.func g),args:=args.toArray,argTypes:=ts}) id (some s) ⟨env,hp,nx,n⟩ K:=
 qbt hp' hc (Bool.or_true _) (zL rfl) hd h
theorem qaj{args:List Operand}{ts:Array TypeId}{g:FuncId}{args':List D}{k:IntKind}{q:Int}(hp':qbX (lkH hp) 64 (args.map (qac env))=some args')(hc:Contract P g args' (.ret (.int k q)))(hd:qak n (some s)=true)
  (h:K .normal ⟨(s,.int k q)::env,hp,nx,n⟩):qap P (.call {callee:=.value (.func g),args:=args.toArray,argTypes:=ts}) id (some s) ⟨env,hp,nx,n⟩ K:=
 qbt hp' hc (Bool.or_true _) (zL rfl) hd h
theorem qeX{b k:Nat}{v:D}{fl fl':Bool}{row cs:List D}[hc:TCells P t k](ha:qac env x=.op b 0 0)(hb:lkH hp b=some ⟨k,fl,[row]⟩)(hv:qac env y=v)(hkn:known v=true)(hcs:qai v=cs)(hl:cs.length=k)(h1:cs.all qhk=true)(hrl:row.length=k)
  (hfl:(fl&&cs.all qkw)=fl') (hk:K .normal ⟨env,qj1 b ⟨k,fl',[cs]⟩ hp,nx,n⟩):qap P (.store t x y) id none ⟨env,hp,nx,n⟩ K:=by
 subst hv hcs
 refine qnS ha rfl hb hkn hl h1 (by simp) (by simp) ?_ hfl hk
 simp only[qb6,List.getD_cons_zero,List.set_cons_zero,List.cons.injEq,and_true]
 unfold qbo
 simp[hl,hrl]
theorem qws{b k:Nat}{fl fl':Bool}{row cs:List D}[hc:TCells P t k](ha:qac env x=.op b 0 0)(hb:lkH hp b=some ⟨k,fl,[row]⟩)(hv:qac env y=.agg cs)(hl:cs.length=k)(h1:cs.all qhk=true)(hrl:row.length=k)
  (hfl:(fl&&cs.all qkw)=fl') (hk:K .normal ⟨env,qj1 b ⟨k,fl',[cs]⟩ hp,nx,n⟩):qap P (.store t x y) id none ⟨env,hp,nx,n⟩ K:=qeX ha hb hv rfl rfl hl h1 hrl hfl hk
theorem qwt{b:Nat}{fl:Bool}{row:D}{k:IntKind}{a:Int}[hc:TCells P t 1](ha:qac env x=.op b 0 0)(hb:lkH hp b=some ⟨1,fl,[[row]]⟩)(hv:qac env y=.int k a)(hk:K .normal ⟨env,qj1 b ⟨1,fl,[[.int k a]]⟩ hp,nx,n⟩):qap P (.store t x y) id none ⟨env,hp,nx,n⟩ K:=
 qeX ha hb hv rfl rfl rfl rfl rfl (by cases fl<;>rfl) hk
theorem quv{b:Nat}{fl:Bool}{row:D}{a:Bool}[hc:TCells P t 1](ha:qac env x=.op b 0 0)(hb:lkH hp b=some ⟨1,fl,[[row]]⟩)(hv:qac env y=.bool a)(hk:K .normal ⟨env,qj1 b ⟨1,fl,[[.bool a]]⟩ hp,nx,n⟩):qap P (.store t x y) id none ⟨env,hp,nx,n⟩ K:=
 qeX ha hb hv rfl rfl rfl rfl rfl (by cases fl<;>rfl) hk
theorem qwu{b:Nat}{fl:Bool}{row:D}{a:ByteArray}[hc:TCells P t 1](ha:qac env x=.op b 0 0)(hb:lkH hp b=some ⟨1,fl,[[row]]⟩)(hv:qac env y=.str a)(hk:K .normal ⟨env,qj1 b ⟨1,fl,[[.str a]]⟩ hp,nx,n⟩):qap P (.store t x y) id none ⟨env,hp,nx,n⟩ K:=
 qeX ha hb hv rfl rfl rfl rfl rfl (by cases fl<;>rfl) hk
theorem qwv{k:IntKind}{a:Int}(h:qac env x=.int k a)(hd:qak n (some s)=true)(hk:K .normal ⟨(s,.op id 0 0)::env,(id,⟨1,true,[[.int k a]]⟩)::hp,nx,n⟩):qap P (.box t x) id (some s) ⟨env,hp,nx,n⟩ K:=qmR h rfl rfl (zL rfl) rfl hd hk
theorem qww{a:ByteArray}(h:qac env x=.str a)(hd:qak n (some s)=true)(hk:K .normal ⟨(s,.op id 0 0)::env,(id,⟨1,true,[[.str a]]⟩)::hp,nx,n⟩):qap P (.box t x) id (some s) ⟨env,hp,nx,n⟩ K:=qmR h rfl rfl (zL rfl) rfl hd hk
theorem qzs{a:List (List D)}(h:qac env x=.sl a)(hd:qak n (some s)=true)(hk:K .normal ⟨(s,.op id 0 0)::env,(id,⟨1,true,[[.sl a]]⟩)::hp,nx,n⟩):qap P (.box t x) id (some s) ⟨env,hp,nx,n⟩ K:=qmR h rfl rfl (zL rfl) rfl hd hk
theorem qwx{f:Fn}{a b:List D}(h:qac env x=.clo f a b)(hd:qak n (some s)=true)(hk:K .normal ⟨(s,.op id 0 0)::env,(id,⟨1,false,[[.clo f a b]]⟩)::hp,nx,n⟩):qap P (.box t x) id (some s) ⟨env,hp,nx,n⟩ K:=qmR h rfl rfl (zL rfl) rfl hd hk
theorem qwy{cs:List D}{k:Nat}{fl:Bool}(h:qac env x=.agg cs)(hl:cs.length=k)(h0:0<k)(hfl:cs.all qkw=fl)(hd:qak n (some s)=true)(hk:K .normal ⟨(s,.op id 0 0)::env,(id,⟨k,fl,[cs]⟩)::hp,nx,n⟩):qap P (.box t x) id (some s) ⟨env,hp,nx,n⟩ K:=by
 subst hl
 exact qmR h rfl rfl h0 (by simpa[qan,qai]using hfl) hd hk
theorem qEC{fn:Fn}{b r o:Nat}(h:qac env x=.op b r o)(hd:qak n (some s)=true)(hk:K .normal ⟨(s,.clo fn [] [.op b r o])::env,hp,nx,n⟩):qap P (.makeFunc fn #[] #[x]) id (some s) ⟨env,hp,nx,n⟩ K:=qCr (xs:=[]) (ys:=[x]) rfl (by simp[h]) hd hk
theorem qED{fn:Fn}{b r o b' r' o':Nat}(h:qac env x=.op b r o)(h':qac env y=.op b' r' o')(hd:qak n (some s)=true)(hk:K .normal ⟨(s,.clo fn [] [.op b r o,.op b' r' o'])::env,hp,nx,n⟩):qap P (.makeFunc fn #[] #[x,y]) id (some s) ⟨env,hp,nx,n⟩ K:=qCr (xs:=[]) (ys:=[x,y]) rfl (by simp[h,h']) hd hk
def qEE(xs:List D):Prop:=∀(hp:Nat→Option Blk) (m:Nat) (ds ds':List D),qbX hp (m+16) ds=some ds'→qbX hp (m+16+xs.length) (xs++ds)=some (xs++ds')
theorem qnT{ts:Array TypeId}{g:FuncId}{xs:List D}{d1 r:D}(hlen:xs.length≤32)(hf:qac env f=.clo (.func g) xs [])(hx:∀m,pur (lkH hp) (m+15) (qac env x)=some d1)(hst:qEE xs)(hc:Contract P g (xs++[d1]) (.ret r))(hr:qbY r=true)(hw:qqB r≤32)(hd:qak n (some s)=true)
  (h:K .normal ⟨(s,(qaO id r).1)::env,(qaO id r).2++hp,nx,n⟩):qap P (.call {callee:=.value f,args:= #[x],argTypes:=ts}) id (some s) ⟨env,hp,nx,n⟩ K:=by
 refine qi7 (args:=[x]) hf ?_ hc (by rw[hr,Bool.or_true]) hw hd h
 have h1:qbX (lkH hp) (48-xs.length+16) [qac env x]=some [d1]:=by
  show(pur (lkH hp) (48-xs.length+15) (qac env x)).bind _=_
  rw[hx]
  rfl
 have:=hst (lkH hp) (48-xs.length) _ _ h1
 rw[show 48-xs.length+16+xs.length=64 by omega]at this
 simpa using this
end
def Frm.one(S:Frm):Prop:=∀b,b≠0→S.ow b=.pending
def qsk(st st':St):Prop:=∀(w0:World) (S:Frm) (a:Act) (w:World),S.one→qcb w0 S st.nx st a w→qcb w0 S st'.nx st' a w
def qKF(P:Program)(rv:List ResultVar)(r:D)(blk':Blk):X→St→Prop
 |.normal,st=>∃ds,rv.map (qb7 P st)=ds.map some∧r=qj2 ds∧lkH st.hp 0=some blk'
 |.ret,st=>∃ds,rv.map (qb7 P st)=ds.map some∧r=qj2 ds∧lkH st.hp 0=some blk'
 |_,_=>False
section
variable {P:Program}{w w' w0:World}
theorem qi8{pu Q:Nat→Prop}{ow:Nat→Ow}{o:Ow}(ho:ow 0=o){v:Value}{d:D}(h:Rep w pu ow v d)(hk:okO d=true):Rep w Q (owM o) v d:=by
 unfold okO at hk
 split at hk
 ·rename_i b' off len
  simp only[beq_iff_eq]at hk
  subst hk
  cases h with
  |pure _ _ h=>cases h
  |osd a n c _ _ _ hb=>exact .osd a n c 0 off len (by rw[←hb,ho];rfl)
  |ose a _ _ hb=>exact .ose a 0 off (by rw[←hb,ho];rfl)
  |osa a cap _ _ _ g o' k sz hb hl hm=>exact .osa a cap 0 off len g o' k sz (by rw[←hb,ho];rfl) hl hm
 ·cases h with
  |pure _ _ h=>exact .pure _ _ (qcn h hk)
  |_=>cases hk
theorem qpj{fn:Func}{S:Frm}{st:St}{a:Act}{w0:World}(hi:qcb w0 S st.nx st a w){ds:List D}{r:D}{blk':Blk}(h1:fn.results.toList.map (qb7 P st)=ds.map some)(hr:r=qj2 ds)(hb:lkH st.hp 0=some blk')
  (hs:qey blk'.rows=true) (ho:qo1 r=true) {o:Ow} (hS:S.ow 0=o) (hne:o≠ .pending):
  a.defers=S.df∧∃v,(results fn a.tmps).run P w=.ok v w∧Below w0.heap.size w0 w∧(∀g,S.pu g→w.heap[g]? =S.w.heap[g]?)∧qb5 w (fun _=>False) (owM o) o blk'∧Rep w (fun _=>False) (owM o) v r:=by
 obtain⟨pu,ow,hm,he,hbw,hz,hid,hsz,hd⟩:=hi
 have h0:ow 0=o:=by
  rcases hd.2.2 0 with h|h
  ·rw[hS]at h;exact(hne h).elim
  ·rw[h,hS]
 obtain⟨vs,g1,g2,g3⟩:=qgM (P:=P) (fn:=fn) hm he h1
 have hblk:=hm.blk 0 blk' hb
 rw[h0]at hblk
 refine⟨hd.1,_,g1,hbw,fun g hg=>(hd.2.1 g hg).2,hblk.rezone hs,?_⟩
 subst hr
 match vs,ds,g2,g3 with
 |[],[],_,_=>exact .tup _ _ rfl fun i v d h=>by simp at h
 |[v],[d],_,g3=>
  have:=g3 0 v d rfl rfl
  simp only[qj2]at ho ⊢
  cases d with
  |tup es=>
   obtain⟨us,rfl,k1,k2⟩:=this.tup_inv
   exact .tup us es k1 fun i v e hv he=>qi8 h0 (k2 i v e hv he) (List.all_eq_true.1 ho e (List.mem_of_getElem? he))
  |_=>exact qi8 h0 this ho
 |v::v'::vs,d::d'::ds,g2,g3=>
  simp only[qj2,qo1]at ho ⊢
  exact .tup _ _ (by simpa using g2) fun i u e hu he=>qi8 h0 (g3 i u e (by simpa using hu) he) (List.all_eq_true.1 ho e (List.mem_of_getElem? he))
theorem qjI{f:FuncId}{fn:Func}{c:Code}{ds:List D}{blk blk':Blk}{r:D}(hmix:P.follows .mixedOrders=true)(hf:P.funcs[f]? =some fn)(hb:fn.body=some c)(hname:(fn.name== "runtime.NumGoroutine")=false)
  (hn:ds.length≤fn.ntmps) (hna:qdk c=true) (hs:qey blk'.rows=true) (ho:qo1 r=true)
  (h:evG qsk P c (qKF P fn.results.toList r blk') ⟨qab 0 ds,[(0,blk)],1,fn.ntmps⟩):qcT P f ds blk r blk':=by
 refine⟨⟨fn,hf,by rw[hb];rfl,hname⟩,hs,ho,fun S w args o hS hO hblk hlen hargs=>?_⟩
 refine calls_of_wp hf hb ?_
 have hne:o≠ .pending:=by rcases hO with rfl|⟨g,a,k,sz,rfl,_⟩<;>simp
 have hnd:o≠ .dead:=by rcases hO with rfl|⟨g,a,k,sz,rfl,_⟩<;>simp
 let w0:World:={w with heap:= #[]}
 let pu:Nat→Prop:=fun g=>g<w.heap.size∧∀a k sz,o≠ .lies g a k sz
 have hSp:∀g,S g→pu g:=fun g hg=>⟨hS g hg,fun a k sz e=>by
  rcases hO with h|⟨g',a',k',sz',h,hng⟩
  ·rw[h]at e;cases e
  ·rw[h]at e;injection e with e;subst e;exact hng hg⟩
 have hext:Ext w S (owM o) w pu (owM o):=⟨fun g hg=>⟨hSp g hg,rfl⟩,fun _=>.inr (.inl rfl)⟩
 have hi:qcb w0 ⟨fun _=>True,w,pu,owM o,[]⟩ 1 ⟨qab 0 ds,[(0,blk)],1,fn.ntmps⟩ {tmps:=args++Array.replicate (fn.ntmps-args.size) undef,defers:=[]} w:=by
  refine⟨pu,owM o,⟨fun b blk2 hb2=>?_,fun b hb2=>?_,fun b b' g h h'=>?_,fun b g h=>?_,fun g hg=>hg.1⟩,fun s=>?_,⟨rfl,rfl,rfl,Nat.zero_le _,fun k hk=>absurd hk (Nat.not_lt_zero k),.same rfl⟩,fun g hg=>.inl trivial,fun b hb2=>?_,by simp;omega,rfl,fun g hg=>⟨hg,rfl⟩,fun b=>.inr rfl⟩
  ·simp only[lkH]at hb2
   split at hb2
   ·rename_i h0;subst h0
    injection hb2 with hb2;subst hb2
    exact hblk.mono hext fun _ _=>rfl
   ·cases hb2
  ·simp only[lkH]at hb2
   split at hb2
   ·cases hb2
   ·rename_i h0;exact .inr (if_neg h0)
  ·unfold owM at h h'
   split at h
   ·split at h'
    ·rename_i e1 e2;rw[e1,e2]
    ·exact h'.elim
   ·exact h.elim
  ·unfold owM at h
   split at h
   ·refine⟨Nat.zero_le _,fun hp=>?_⟩
    rcases hO with rfl|⟨g',a',k',sz',rfl,_⟩
    ·exact h.elim
    ·cases h;exact hp.2 _ _ _ rfl
   ·exact h.elim
  ·simp only
   rw[qh7,if_pos (Nat.zero_le _),Nat.sub_zero,Array.getD_eq_getD_getElem?,Array.getElem?_append]
   split
   ·rename_i hs
    rw[Array.getElem?_eq_getElem hs,List.getD_eq_getElem?_getD,List.getElem?_eq_getElem (by omega)]
    simp only[Option.getD_some]
    exact(hargs s _ _ (Array.getElem?_eq_getElem hs) (List.getElem?_eq_getElem (by omega))).mono hext
   ·rename_i hs
    rw[List.getD_eq_getElem?_getD,List.getElem?_eq_none (by omega)]
    exact .pure _ _ (.undef _)
  ·exact if_neg (by omega)
 have hone:Frm.one ⟨fun _=>True,w,pu,owM o,[]⟩:=fun b hb=>if_neg hb
 have fin:∀{a:Act} {w':World},(a.defers=[]∧∃v,(results fn a.tmps).run P w'=.ok v w'∧Below w0.heap.size w0 w'∧(∀g,pu g→w'.heap[g]? =w.heap[g]?)∧qb5 w' (fun _=>False) (owM o) o blk'∧Rep w' (fun _=>False) (owM o) v r)→
   a.defers=[]∧∃v,(results fn a.tmps).run P w'=.ok v w'∧((Below 0 w w'∧∀g,g<w.heap.size→(∀a k sz,o≠ .lies g a k sz)→w'.heap[g]? =w.heap[g]?)∧∃v',Ending.returned v=.returned v'∧qb5 w' (fun _=>False) (owM o) o blk'∧Rep w' (fun _=>False) (owM o) v' r):=by
  rintro a w' ⟨h1,v,h2,h3,h4,h5,h6⟩
  refine⟨h1,v,h2,⟨⟨h3.os,h3.tape,h3.output,?_,fun k hk=>absurd hk (Nat.not_lt_zero k),h3.drawn⟩,fun g hg ho=>h4 g ⟨hg,ho⟩⟩,v,rfl,h5,h6⟩
  rcases Nat.lt_or_ge w'.heap.size w.heap.size with hlt|hge
  ·exfalso
   by_cases hp:∀a k sz,o≠ .lies (w.heap.size-1) a k sz
   ·have:=h4 (w.heap.size-1) ⟨by omega,hp⟩
    rw[Array.getElem?_eq_none (by omega),Array.getElem?_eq_getElem (by omega)]at this
    cases this
   ·simp only[Classical.not_forall]at hp
    obtain⟨a,k,sz,hp⟩:=hp
    have hp:=Classical.not_not.1 hp
    rw[hp]at h5
    obtain⟨_,_,_,_,_,cc,t,h7,_⟩:=h5
    rw[Array.getElem?_eq_none (by omega)]at h7
    cases h7
  ·exact hge
 refine wp_mono (qsa hmix (fun _ _ _ _ he hi=>he _ _ _ _ hone hi) c _ _ _ w (.inr hna) hi h) fun e a w' he=>?_
 cases e with
 |normal=>
  obtain⟨st,⟨ds,h1,h2,h3⟩,hi'⟩:=he
  exact fin (qpj hi' h1 h2 h3 hs ho rfl hne)
 |ret=>
  obtain⟨st,⟨ds,h1,h2,h3⟩,hi'⟩:=he
  exact fin (qpj hi' h1 h2 h3 hs ho rfl hne)
 |panic chain=>
  obtain⟨d,st,hk,_⟩:=he
  exact hk.elim
 |exit id=>obtain⟨st,hk,_⟩:=he;exact hk.elim
 |_=>exact he.elim
end
def qe7(w:World):Nat→Prop:=fun g=>g<w.heap.size
def qD0(w:World)(cs:List Value)(ds:List D):Prop:=cs.length=ds.length∧∀(i:Nat) (v:Value) (d:D),cs[i]? =some v→ds[i]? =some d→RepP w (qe7 w) v d
structure Reads(P:Program)(t:TypeId){α:Type}(ok:α→Prop)(f:α→List D):Prop where
 h:∀{H:Type} {enc:TypeId×Value→H} {w:World} {base:Nat} {spare:Nat→Bool} {held:Bool} {fuel:Nat} {cs:List Value} {x:DataW H×List MemPlace},
  DataW.trod enc P w base spare held fuel t cs=some x→∃a:α,ok a∧qD0 w cs (f a)
 k:∀a,ok a→(f a).length=P.cellsOf t
section
variable {P:Program}{w:World}{t e:TypeId}
theorem qD0.one{v:Value}{d:D}(h:RepP w (qe7 w) v d):qD0 w [v] [d]:=⟨rfl,fun i v' d' h1 h2=>by
 cases i with
 |zero=>simp at h1 h2;subst h1 h2;exact h
 |succ i=>simp at h1⟩
theorem Reads.map{α β:Type}{ok:α→Prop}{f:α→List D}{ok':β→Prop}{f':β→List D}(h:Reads P t ok f)(g:α→β)(hf:∀a,ok a→f' (g a)=f a)(hok:∀a,ok a→ok' (g a))(hk:∀b,ok' b→(f' b).length=P.cellsOf t):Reads P t ok' f':=
 ⟨fun h'=>by obtain⟨a,h1,h2⟩:=h.h h';exact⟨g a,hok a h1,by rw[hf a h1];exact h2⟩,hk⟩
theorem qwz{k:IntKind}(ht:P.underlying t=some (.int k))(hc:P.cellsOf t=1):Reads P t (fun n:Int=>(Lit.int k n).wf=true) (fun n=>[.int k n]):=
 ⟨fun h=>by obtain⟨n,rfl,_,hw⟩:=DataW.trod_int ht h;exact⟨n,hw,.one (.int k n)⟩,fun _ _=>by rw[hc];rfl⟩
def I64(n:Int):Prop:= -9223372036854775808≤n∧n≤9223372036854775807
theorem qpk(ht:P.underlying t=some (.int .i64))(hc:P.cellsOf t=1):Reads P t I64 (fun n=>[.int .i64 n]):=
 (qwz ht hc).map id (fun _ _=>rfl) (fun _ h=>bounds_i64 h) fun _ _=>by rw[hc];rfl
theorem qwA(ht:P.underlying t=some .string)(hc:P.cellsOf t=1):Reads P t (fun s:ByteArray=>s.size≤maxLen) (fun s=>[.str s]):=
 ⟨fun h=>by obtain⟨s,rfl,_,hs⟩:=DataW.trod_string ht h;exact⟨s,hs,.one (.str s)⟩,fun _ _=>by rw[hc];rfl⟩
theorem qwB{α:Type}{p:Nat→α→Prop}:∀{n:Nat},(∀i,i<n→∃a,p i a)→∃l:List α,l.length=n∧∀i (hi:i<l.length),p i l[i]
 |0,_=>⟨[],rfl,fun i hi=>by simp at hi⟩
 |n+1,h=>by
  obtain⟨l,hl,hp⟩:=qwB (n:=n) fun i hi=>h i (by omega)
  obtain⟨a,ha⟩:=h n (by omega)
  refine⟨l++[a],by simp[hl],fun i hi=>?_⟩
  rw[List.getElem_append]
  split
  ·exact hp i _
  ·have:i=n:=by simp at hi;omega
   subst this
   simpa using ha
theorem qCs{a:Addr}{v:Value}(h:w.cell? a=some v):a.block<w.heap.size:=by
 unfold World.cell? at h
 split at h
 ·rename_i hb
  exact(Array.getElem?_eq_some_iff.1 hb).1
 ·cases h
theorem qzt(a:Addr)(m n:Nat):(a.add m).add n=a.add (m+n):=by
 unfold Addr.add
 by_cases hm:m=0<;>by_cases hn:n=0<;>simp[hm,hn,Nat.add_assoc]
theorem qbe{α:Type}{ok:α→Prop}{f:α→List D}{k:Nat}(ht:P.underlying t=some (.slice e))(he:Reads P e ok f)(hk:P.cellsOf e=k)(hp:0<k)(hc:P.cellsOf t=1):
  Reads P t (fun l:List α=>l.length≤maxLen∧∀a∈l,ok a) (fun l=>[.sl (l.map f)]):=by
 refine⟨fun{H enc w base spare held fuel cs x} h=>?_,fun _ _=>by rw[hc];rfl⟩
 rcases DataW.trod_slice ht h with⟨rfl,_⟩|⟨a,len,cap,elems,rest,n,_,rfl,_,hb,hl,hm,hlen,hel,_,_⟩
 ·refine⟨[],⟨Nat.zero_le _,by simp⟩,.one ?_⟩
  exact .sl none 0 [] 0 (fun _ _=>.bool false) (Nat.le_refl _) (by simp) (by simp) fun i j d hd=>by simp[qau]at hd
 ·have hex:∀i,i<len→∃a':α,ok a'∧∃cs',qD0 w cs' (f a')∧cs'.length=k∧∀j,j<k→w.cell? (a.add (i*k+j))=cs'[j]?:=fun i hi=>by
   have h1:=hel i hi
   have hi':i<elems.length:=by omega
   rw[List.getElem?_eq_getElem hi']at h1
   obtain⟨cs',h2,h3⟩:=Option.bind_eq_some_iff.1 h1
   obtain⟨a',h4,h5⟩:=he.h h3
   obtain⟨_,h6,h7⟩:=World.cells?_some h2
   refine⟨a',h4,cs',h5,h6.trans hk,fun j hj=>?_⟩
   rw[←h7 j (by omega),hk,qzt]
  obtain⟨l,hll,hl'⟩:=qwB hex
  refine⟨l,⟨by omega,fun a' ha=>?_⟩,.one ?_⟩
  ·obtain⟨i,hi,rfl⟩:=List.mem_iff_getElem.1 ha
   exact(hl' i hi).1
  ·have hlen':len=(l.map f).length:=by simp[hll]
   rw[hlen']
   refine .sl (some a) cap (l.map f) k (fun i j=>(w.cell? (a.add (i*k+j))).getD undef) (by omega) (fun r hr=>?_) (fun hne=>?_) fun i j d hd=>?_
   ·obtain⟨a',ha,rfl⟩:=List.mem_map.1 hr
    obtain⟨i,hi,rfl⟩:=List.mem_iff_getElem.1 ha
    exact(he.k _ (hl' i hi).1).trans hk
   ·have h0:0<l.length:=by
     cases l with
     |nil=>simp at hne
     |cons _ _=>simp
    have hcell:∀i j,i<l.length→j<k→∃v,w.cell? (a.add (i*k+j))=some v:=fun i j hi hj=>by
     obtain⟨_,cs',_,h2,h3⟩:=hl' i hi
     exact⟨cs'[j]'(by omega),by rw[h3 j hj,List.getElem?_eq_getElem]⟩
    obtain⟨v0,hv0⟩:=hcell 0 0 h0 hp
    have hsp:a.spot=none:=by simpa[Addr.add]using World.cell?_spot hv0
    obtain⟨b,off,sp⟩:=a
    simp only at hsp
    subst hsp
    refine⟨b,off,rfl,?_,fun i j hi hj=>?_⟩
    ·have:=qCs hv0
     simpa[Addr.add,qe7]using this
    ·obtain⟨v,hv⟩:=hcell i j (by simpa using hi) hj
     rw[hv]
     rw[Addr.add_spotless]at hv
     rw[Nat.add_assoc,hv]
     rfl
   ·unfold qau at hd
    obtain⟨r,hr,hj⟩:=Option.bind_eq_some_iff.1 hd
    rw[List.getElem?_map,Option.map_eq_some_iff]at hr
    obtain⟨a',ha,rfl⟩:=hr
    obtain⟨hi,rfl⟩:=List.getElem?_eq_some_iff.1 ha
    obtain⟨hok,cs',⟨h1,h2⟩,h3,h4⟩:=hl' i hi
    have hjk:j<k:=by
     have:=(List.getElem?_eq_some_iff.1 hj).1
     rw[he.k _ hok,hk]at this
     exact this
    rw[h4 j hjk]
    have hv:cs'[j]? =some (cs'[j]'(by omega)):=List.getElem?_eq_getElem _
    rw[hv]
    exact h2 j _ d hv hj
structure ReadsF(P:Program)(fs:List Field)(o qfp:Nat){α:Type}(ok:α→Prop)(f:α→List D):Prop where
 k:∀a,ok a→(f a).length=qfp
 h:∀{H:Type} {enc:TypeId×Value→H} {w:World} {base:Nat} {spare:Nat→Bool} {held:Bool} {n:Nat} {cs:List Value},
  (∀(i:Nat) (fd:Field),fs[i]? =some fd→∃y,DataW.trod enc P w base spare held n fd.type ((cs.drop fd.offset).take (P.cellsOf fd.type))=some y)→o+qfp≤cs.length→
   ∃a:α,ok a∧qD0 w ((cs.drop o).take qfp) (f a)
theorem qa7{o:Nat}:ReadsF P [] o 0 (fun _:Unit=>True) (fun _=>[]):=⟨fun _ _=>rfl,fun _ _=>⟨(),trivial,by simp,fun i v d h1 h2=>by simp at h2⟩⟩
theorem qah{α β:Type}{fd:Field}{fs:List Field}{o k qfp:Nat}{ok:α→Prop}{f:α→List D}{ok':β→Prop}{f':β→List D}(h1:Reads P fd.type ok f)(hk:P.cellsOf fd.type=k)(ho:fd.offset=o)(h2:ReadsF P fs (o+k) qfp ok' f'):
  ReadsF P (fd::fs) o (k+qfp) (fun x:α×β=>ok x.1∧ok' x.2) (fun x=>f x.1++f' x.2):=by
 refine⟨fun a ha=>by rw[List.length_append,h1.k _ ha.1,h2.k _ ha.2,hk],fun{H enc w base spare held n cs} h hl=>?_⟩
 obtain⟨y,hy⟩:=h 0 fd rfl
 obtain⟨a,ha,hca⟩:=h1.h hy
 obtain⟨b,hb,hcb⟩:=h2.h (cs:=cs) (fun i fd hi=>h (i+1) fd (by simpa using hi)) (by omega)
 refine⟨(a,b),⟨ha,hb⟩,?_⟩
 have e:(cs.drop o).take (k+qfp)=(cs.drop o).take k++(cs.drop (o+k)).take qfp:=by
  rw[List.take_add,List.drop_drop]
 rw[e]
 rw[ho,hk]at hca
 have hl1:((cs.drop o).take k).length=(f a).length:=hca.1
 refine⟨by simp only[List.length_append,hca.1,hcb.1],fun i v d e1 e2=>?_⟩
 simp only at e2
 rw[List.getElem?_append]at e1 e2
 rw[hl1]at e1
 split at e1
 ·rename_i hi
  rw[if_pos hi]at e2
  exact hca.2 i v d e1 e2
 ·rename_i hi
  rw[if_neg hi]at e2
  exact hcb.2 _ v d e1 e2
theorem qaL{α:Type}{fs:Array Field}{qfp:Nat}{ok:α→Prop}{f:α→List D}(ht:P.underlying t=some (.struct fs))(hc:P.cellsOf t=qfp)(h:ReadsF P fs.toList 0 qfp ok f):Reads P t ok f:=by
 refine⟨fun{H enc w base spare held fuel cs x} hx=>?_,fun a ha=>(h.k a ha).trans hc.symm⟩
 obtain⟨xs,n,_,_,hl,hxs,hf⟩:=DataW.trod_struct ht hx
 rw[hc]at hl
 obtain⟨a,ha,hr⟩:=h.h (cs:=cs) (fun i fd hi=>by
  have hi':fs[i]? =some fd:=by rw[←Array.getElem?_toList];exact hi
  have hlt:i<xs.length:=by rw[hxs];exact(Array.getElem?_eq_some_iff.1 hi').1
  exact⟨_,(hf i fd hi').trans (List.getElem?_eq_getElem hlt)⟩) (by omega)
 refine⟨a,ha,?_⟩
 rw[List.drop_zero,←hl,List.take_length]at hr
 exact hr
structure ReadsA(P:Program)(ts:List TypeId){α:Type}(ok:α→Prop)(f:α→List D):Prop where
 h:∀{H:Type} {enc:TypeId×Value→H} {w:World} {base:Nat} {args:List Value} {ds:List (DataW H)} {p:List MemPlace},(∀(j:Nat) t v,ts[j]? =some t→args[j]? =some v→Value.okWide P w .any base t v)→
  DataW.TrodAll enc P w 0 (fun _=>true) true ts args ds p→∃a:α,ok a∧qD0 w args (f a)
theorem qfk:ReadsA P [] (fun _:Unit=>True) (fun _=>[]):=⟨fun{H enc w base args ds p} _ h=>by
 obtain⟨rfl,_⟩:args=[]∧True:=by
  cases args with
  |nil=>exact⟨rfl,trivial⟩
  |cons _ _=>exact h.elim
 exact⟨(),trivial,rfl,fun i v d h1 h2=>by simp at h1⟩⟩
def qwC(d:TypeDesc):Bool:=match d with
 |.int _|.bool|.string|.slice _=>true
 |_=>false
def qwD(d:TypeDesc):Bool:=match d with
 |.struct _|.array _ _=>true
 |_=>false
theorem qwE{u:TypeDesc}{v:Value}{base:Nat}(hu:P.underlying t=some u)(ho:qwC u=true)(hv:Value.okWide P w .any base t v):v.cells= #[v]:=by
 cases v with
 |agg cs=>
  unfold Value.okWide at hv
  rw[hu]at hv
  cases u<;>first|(cases ho;done)|skip
  all_goals
   unfold Cell.okWide Cell.ok at hv
   rw[hu]at hv
   exact hv.elim
 |_=>rfl
theorem qbf{α β:Type}{ts:List TypeId}{u:TypeDesc}{ok:α→Prop}{f:α→List D}{g:α→D}{ok':β→Prop}{f':β→List D}(hu:P.underlying t=some u)
  (h1:Reads P t ok f) (ho:(qwC u=true∧∀a,f a=[g a])∨(qwD u=true∧∀a,g a=.agg (f a))) (h2:ReadsA P ts ok' f'):
  ReadsA P (t::ts) (fun x:α×β=>ok x.1∧ok' x.2) (fun x=>g x.1::f' x.2):=by
 refine⟨fun{H enc w base args ds p} hok h=>?_⟩
 match args,ds,p,h with
 |[],[],_,h=>exact h.elim
 |[],_::_,_,h=>exact h.elim
 |_::_,[],_,h=>exact h.elim
 |v::vs,d::ds,_,⟨p1,q1,⟨fuel,ht⟩,hr,_⟩=>
  obtain⟨a,ha,hca⟩:=h1.h ht
  obtain⟨b,hb,hcb⟩:=h2.h (args:=vs) (fun j t v h1 h2=>hok (j+1) t v (by simpa using h1) (by simpa using h2)) hr
  have hv:=hok 0 t v rfl rfl
  have hrep:RepP w (qe7 w) v (g a):=by
   rcases ho with⟨h1,hg⟩|⟨h1,hg⟩
   ·rw[qwE hu h1 hv,hg]at hca
    exact hca.2 0 v (g a) rfl rfl
   ·unfold Value.okWide at hv
    rw[hu]at hv
    cases u<;>first|(cases h1;done)|skip
    all_goals
     obtain⟨cs,rfl,_,_⟩:=hv
     rw[hg]
     refine .agg cs _ (by simpa[Value.cells]using hca.1) fun i v d e1 e2=>hca.2 i v d (by simpa[Value.cells]using e1) e2
  refine⟨(a,b),⟨ha,hb⟩,by simp[hcb.1],fun i v' d' e1 e2=>?_⟩
  cases i with
  |zero=>simp at e1 e2;subst e1 e2;exact hrep
  |succ i=>exact hcb.2 i v' d' (by simpa using e1) (by simpa using e2)
theorem ReadsA.map{α β:Type}{ts:List TypeId}{ok:α→Prop}{f:α→List D}{ok':β→Prop}{f':β→List D}(h:ReadsA P ts ok f)(g:α→β)(hf:∀a,ok a→f' (g a)=f a)(hok:∀a,ok a→ok' (g a)):ReadsA P ts ok' f':=
 ⟨fun h1 h2=>by obtain⟨a,h3,h4⟩:=h.h h1 h2;exact⟨g a,hok a h3,by rw[hf a h3];exact h4⟩⟩
theorem qjJ{H:Type}{enc:TypeId×Value→H}{W W':World}(hl:laidOutB P=true)(hb:Below W.heap.size W W'):∀{ts:List TypeId} {vs:List Value} {ds:List (DataW H)} {ps:List MemPlace},
  (ts.all fun t=>P.readableRec t&&decide (t<P.types.size))=true→DataW.TrodAll enc P W 0 (fun _=>true) true ts vs ds ps→DataW.TrodAll enc P W' 0 (fun b=>decide (b<W.heap.size)) true ts vs ds ps
 |[],[],[],_,_,h=>h
 |t::ts,v::vs,d::ds,_,hr,⟨p,q,h1,h2,e⟩=>by
  simp only[List.all_cons,Bool.and_eq_true,decide_eq_true_eq]at hr
  have hlt:∀x∈p,x.block<W.heap.size:=by obtain⟨m,hm⟩:=h1;exact DataW.trod_lt m _ _ _ hm
  exact⟨p,q,Go.RowKit.Below.trod hl hr.1.1 hr.1.2 h1 hb.kit hlt,qjJ hl hb hr.2 h2,e⟩
 |[],[],_::_,_,_,h=>h.elim
 |[],_::_,_,_,_,h=>h.elim
 |_::_,[],_,_,_,h=>h.elim
 |_::_,_::_,[],_,_,h=>h.elim
theorem qk3{H:Type}{enc:TypeId×Value→H}{W:World}{base:Nat}{sp:Nat→Bool}{held:Bool}:∀{ts:List TypeId} {vs:List Value} {ds:List (DataW H)} {ps:List MemPlace},DataW.TrodAll enc P W base sp held ts vs ds ps→ds.length=ts.length
 |[],[],[],_,_=>rfl
 |_::_,_::_,_::_,_,⟨_,_,_,h,_⟩=>by simp[qk3 h]
 |[],[],_::_,_,h=>h.elim
 |[],_::_,_,_,h=>h.elim
 |_::_,[],_,_,h=>h.elim
 |_::_,_::_,[],_,h=>h.elim
theorem law_frame{H:Type}{enc:TypeId×Value→H}{α:Type}{ok:α→Prop}{f':α→List D}{f:FuncId}{fn:Func}{s:ChangeSpec}{tb:TypeId}(hvars:s.vars=[])(hR:ReadsA P fn.params.toList ok f')
  (hs:∀ds:List (DataW H),ds.length=fn.params.toList.length→s.fn H ds={results:=[.lit (.bool true)],args:=ds})
  (hres:fn.resultTypes= #[tb]) (hb:P.underlying tb=some .bool) (hl:laidOutB P=true) (hrec:(fn.params.toList.all fun t=>P.readableRec t&&decide (t<P.types.size))=true)
  (con:∀a,ok a→Contract P f (f' a) (.ret (.bool true))) (W:World) (base:Nat) (args:Array Value) (ds gs:List (DataW H)) (before:List MemPlace)
  (hval:∀(j:Nat) t v,fn.params[j]? =some t→args[j]? =some v→Value.okWide P W .any base t v)
  (hW:DataW.Whole enc P fn.params.toList s.vars false W args.toList ds gs before):Calls P f args W fun e W'=>∃v,e=.returned v∧s.post enc P fn false true false false W args v W':=by
 have hW':=hW
 obtain⟨p,q,hA,hV,rfl,_,_⟩:=hW
 obtain⟨a,ha,hrep⟩:=hR.h (fun j t v h1 h2=>hval j t v (by simpa using h1) (by simpa using h2)) hA
 refine((con a ha).2 (qe7 W) W args (fun g hg=>hg) ⟨by simpa using hrep.1,fun i v d h1 h2=>hrep.2 i v d (by simpa using h1) h2⟩).mono fun e W' ⟨hbel,Q,hQ,v,he,hr⟩=>?_
 subst he
 obtain⟨ow,_,hv,_⟩:=hr 0
 obtain rfl:=hv.bool_inv
 have hgs:gs=[]∧q=[]:=by
  rw[hvars]at hV
  cases gs with
  |nil=>exact⟨rfl,hV⟩
  |cons _ _=>exact hV.elim
 obtain⟨rfl,rfl⟩:=hgs
 have hfn:=hs ds (qk3 hA)
 refine⟨_,rfl,ds,[],p++[],[],p,[],hW',?_,?_,?_,hbel.kit.frame _,fun h=>by cases h⟩
 ·rw[List.append_nil,hfn,hres]
  exact⟨[],[],Go.RowKit.shut_bool hb true,rfl,rfl⟩
 ·rw[List.append_nil,hfn]
  exact qjJ hl hbel hrec hA
 ·rw[List.append_nil,hfn,hvars]
  rfl
end
def qb8:D→Bool
 |.agg cs=>cs.all qa0
 |d=>qa0 d
def qsl:D→Bool
 |.tup ds=>ds.all qb8
 |d=>qb8 d
theorem qpl:∀{cs:List D} {n:Nat},cs.all qa0=true→adL n cs=(cs,[])
 |[],_,_=>rfl
 |c::cs,n,h=>by
  simp only[List.all_cons,Bool.and_eq_true]at h
  have hc:adC n c=(c,[]):=by cases c<;>first|rfl|(exact absurd h.1 (by simp[qa0]))
  simp only[adL,hc,qpl h.2,List.nil_append]
theorem qgp{d:D}{n:Nat}(h:qb8 d=true):adE n d=(d,[]):=by
 cases d with
 |agg cs=>simp only[adE,qpl (cs:=cs) h]
 |_=>first|rfl|(exact absurd h (by simp[qb8,qa0]))
theorem qpm:∀{ds:List D} {n:Nat},ds.all qb8=true→adT n ds=(ds,[])
 |[],_,_=>rfl
 |d::ds,n,h=>by
  simp only[List.all_cons,Bool.and_eq_true]at h
  simp only[adT,qgp h.1,qpm h.2,List.nil_append]
theorem qqY{d:D}(h:qa0 d=true):qqK d=true:=by
 cases d<;>first|(cases h;done)|rfl
theorem qdC{d:D}(h:qb8 d=true):qj0 d=true:=by
 cases d with
 |agg cs=>
  simp only[qb8,List.all_eq_true]at h
  simp only[qj0,List.all_eq_true]
  exact fun c hc=>qqY (h c hc)
 |_=>first|rfl|(exact absurd h (by simp[qb8,qa0]))
theorem qk4{d:D}(h:qsl d=true):(∃ds,d=.tup ds∧ds.all qb8=true)∨(qb8 d=true∧(∀n,qaO n d=adE n d)∧qbY d=qj0 d):=by
 cases d<;>first|exact .inl ⟨_,rfl,h⟩|exact .inr ⟨h,fun _=>rfl,rfl⟩
theorem qqZ{d:D}{n:Nat}(h:qsl d=true):qaO n d=(d,[]):=by
 rcases qk4 h with⟨ds,rfl,h⟩|⟨h,h2,_⟩
 ·simp only[qaO,qpm (ds:=ds) h]
 ·rw[h2];exact qgp h
theorem qnU{d:D}(h:qsl d=true):qbY d=true:=by
 rcases qk4 h with⟨ds,rfl,h1⟩|⟨h,_,h2⟩
 ·rw[List.all_eq_true]at h1
  simp only[qbY,List.all_eq_true]
  exact fun c hc=>qdC (h1 c hc)
 ·rw[h2];exact qdC h
class TEq (P:Program) (t:TypeId) (ks:outParam (List Kd)):Prop where h:qEf P t=some ks
class TArr (P:Program) (t:TypeId) (len:outParam Nat) (k:outParam Nat):Prop where h:∃e,P.underlying t=some (.array len e)∧P.cellsOf e=k∧0<k
section
variable {P:Program}{K:X→St→Prop}{env:Env}{hp:Hp}{nx n id:Nat}{s:Tmp}{x y f:Operand}{t t':TypeId}
theorem qbF{args:List Operand}{ts:Array TypeId}{g:FuncId}{args':List D}{r:D}(hp':qbX (lkH hp) 64 (args.map (qac env))=some args')(hc:Contract P g args' (.ret r))(hr:qsl r=true)(hw:qqB r≤32)(hd:qak n (some s)=true)
  (h:K .normal ⟨(s,r)::env,hp,nx,n⟩):qap P (.call {callee:=.value (.func g),args:=args.toArray,argTypes:=ts}) id (some s) ⟨env,hp,nx,n⟩ K:=
 qbt hp' hc (by rw[qnU hr,Bool.or_true]) hw hd (by rw[qqZ hr];exact h)
theorem qfl{a b:Int}(h:0≤a)(hb:0<b):a.tdiv b=a/b∧0≤a/b∧a/b≤a:=by
 refine⟨Int.tdiv_eq_ediv_of_nonneg h,Int.ediv_nonneg h (by omega),?_⟩
 exact Int.ediv_le_self b h
theorem quw{a b:Int}(h1:qac env x=.int .i64 a)(h2:qac env y=.int .i64 b)(hd:qak n (some s)=true)(hr:0≤a∧0<b∧a≤9223372036854775807)(hk:K .normal ⟨(s,(.int .i64 (a/b)))::env,hp,nx,n⟩):
  qap P (.binOp .quo t x y t') id (some s) ⟨env,hp,nx,n⟩ K:=by
 obtain⟨e1,e2,e3⟩:=qfl hr.1 hr.2.1
 exact qBb h1 h2 hd (by omega) (by rw[e1];omega) (by rw[e1];exact hk)
theorem qux{a b:Int}(h1:qac env x=.int .i64 a)(h2:qac env y=.int .i64 b)(hd:qak n (some s)=true)(hr:0≤a∧0<b)(hk:K .normal ⟨(s,(.int .i64 (a%b)))::env,hp,nx,n⟩):
  qap P (.binOp .rem t x y t') id (some s) ⟨env,hp,nx,n⟩ K:=qBc h1 h2 hd (by omega) (by rw[Int.tmod_eq_emod_of_nonneg hr.1];exact hk)
theorem qzu{a b:Int}(hb:b≠0)(h: -9223372036854775807≤a∧a≤9223372036854775807): -9223372036854775808≤a.tdiv b∧a.tdiv b≤9223372036854775807:=by
 have h1:(a.tdiv b).natAbs≤a.natAbs:=by rw[Int.natAbs_tdiv];exact Nat.div_le_self _ _
 omega
theorem quy{a b:Int}(h1:qac env x=.int .i64 a)(h2:qac env y=.int .i64 b)(hd:qak n (some s)=true)(hb:b≠0)(hr: -9223372036854775807≤a∧a≤9223372036854775807)(hk:K .normal ⟨(s,(.int .i64 (a.tdiv b)))::env,hp,nx,n⟩):
  qap P (.binOp .quo t x y t') id (some s) ⟨env,hp,nx,n⟩ K:=qBb h1 h2 hd hb (qzu hb hr) hk
theorem qEF{e k:Nat}[hs:TSlice P t e k](hd:qak n (some s)=true)(hk:K .normal ⟨(s,.os id 0 0)::env,(id,⟨0,true,[]⟩)::hp,nx,n⟩):qap P (.buildSlice t 0 #[]) id (some s) ⟨env,hp,nx,n⟩ K:=by
 have h1:op1 P (qac env) (.buildSlice t 0 #[])=some (false,⟨0,true,[]⟩):=by
  simp only[op1,hs.u,if_true]
  rw[if_pos ⟨rfl,by rw[hs.c];exact hs.p⟩]
 unfold qap
 simp only[op0,h1]
 exact⟨hd,hk⟩
theorem qmT{e k:Nat}{z v:D}{cs:List D}{fl:Bool}[hs:TSlice P t e k][hz:TZero P e z](h:qac env x=v)(hkn:known v=true)(hcs:qai v=cs)(hzl:(qai z).length=k)(hl:cs.length=k)(hfl:cs.all qkw=fl)(hsm:k≤16777216)(hd:qak n (some s)=true)
  (hk:K .normal ⟨(s,.os id 0 1)::env,(id,⟨k,fl,[cs]⟩)::hp,nx,n⟩):qap P (.buildSlice t 1 #[(0,x)]) id (some s) ⟨env,hp,nx,n⟩ K:=by
 subst h hcs hfl
 have h1:op1 P (qac env) (.buildSlice t 1 #[(0,x)])=some (false,⟨k,(qai (qac env x)).all qkw,[qai (qac env x)]⟩):=by
  simp only[op1,hs.u,hz.h,Option.bind_some]
  rw[if_neg (by decide),if_pos ⟨hz.k,by rw[hzl,hs.c],by rw[hs.c];exact hs.p,by rw[hs.c];omega⟩]
  simp only[List.map_cons,List.map_nil,qef,List.replicate,List.length_cons,List.length_nil]
  rw[if_pos ⟨hkn,by rw[hl,hs.c],by omega⟩]
  simp[hs.c,qan]
 unfold qap
 simp only[op0,h1]
 exact⟨hd,hk⟩
theorem qBe{e k:Nat}{z v v':D}{cs cs':List D}{fl:Bool}[hs:TSlice P t e k][hz:TZero P e z](h:qac env x=v)(h':qac env y=v')(hkn:known v=true)(hkn':known v'=true)(hcs:qai v=cs)(hcs':qai v'=cs')(hzl:(qai z).length=k)(hl:cs.length=k)(hl':cs'.length=k)
  (hfl:(cs.all qkw&&cs'.all qkw)=fl) (hsm:k≤1000000) (hd:qak n (some s)=true)
  (hk:K .normal ⟨(s,.os id 0 2)::env,(id,⟨k,fl,[cs,cs']⟩)::hp,nx,n⟩):qap P (.buildSlice t 2 #[(0,x),(1,y)]) id (some s) ⟨env,hp,nx,n⟩ K:=by
 subst h hcs h' hcs' hfl
 have h1:op1 P (qac env) (.buildSlice t 2 #[(0,x),(1,y)])=some (false,⟨k,(qai (qac env x)).all qkw&&(qai (qac env y)).all qkw,[qai (qac env x),qai (qac env y)]⟩):=by
  simp only[op1,hs.u,hz.h,Option.bind_some]
  rw[if_neg (by decide),if_pos ⟨hz.k,by rw[hzl,hs.c],by rw[hs.c];exact hs.p,by rw[hs.c];omega⟩]
  simp only[List.map_cons,List.map_nil,qef,List.replicate,List.length_cons,List.length_nil,List.length_set]
  rw[if_pos ⟨hkn,by rw[hl,hs.c],by omega⟩,if_pos ⟨hkn',by rw[hl',hs.c],by omega⟩]
  simp[hs.c,qan]
 unfold qap
 simp only[op0,h1]
 exact⟨hd,hk⟩
theorem quz{e:Nat}{z:D}{k:IntKind}{a:Int}[hs:TSlice P t e 1][hz:TZero P e z](h:qac env x=.int k a)(hzl:(qai z).length=1)(hd:qak n (some s)=true)
  (hk:K .normal ⟨(s,.os id 0 1)::env,(id,⟨1,true,[[.int k a]]⟩)::hp,nx,n⟩):qap P (.buildSlice t 1 #[(0,x)]) id (some s) ⟨env,hp,nx,n⟩ K:=qmT h rfl rfl hzl rfl rfl (by omega) hd hk
theorem quA{e k:Nat}{z:D}{cs:List D}{fl:Bool}[hs:TSlice P t e k][hz:TZero P e z](h:qac env x=.agg cs)(hzl:(qai z).length=k)(hl:cs.length=k)(hfl:cs.all qkw=fl)(hsm:Nat.ble k 16777216=true)(hd:qak n (some s)=true)
  (hk:K .normal ⟨(s,.os id 0 1)::env,(id,⟨k,fl,[cs]⟩)::hp,nx,n⟩):qap P (.buildSlice t 1 #[(0,x)]) id (some s) ⟨env,hp,nx,n⟩ K:=qmT h rfl rfl hzl hl hfl (Nat.le_of_ble_eq_true hsm) hd hk
theorem quB{e:Nat}{z:D}{k k':IntKind}{a a':Int}[hs:TSlice P t e 1][hz:TZero P e z](h:qac env x=.int k a)(h':qac env y=.int k' a')(hzl:(qai z).length=1)(hd:qak n (some s)=true)
  (hk:K .normal ⟨(s,.os id 0 2)::env,(id,⟨1,true,[[.int k a],[.int k' a']]⟩)::hp,nx,n⟩):qap P (.buildSlice t 2 #[(0,x),(1,y)]) id (some s) ⟨env,hp,nx,n⟩ K:=qBe h h' rfl rfl rfl rfl hzl rfl rfl rfl (by omega) hd hk
theorem quC{e k:Nat}{z:D}{cs cs':List D}{fl:Bool}[hs:TSlice P t e k][hz:TZero P e z](h:qac env x=.agg cs)(h':qac env y=.agg cs')(hzl:(qai z).length=k)(hl:cs.length=k)(hl':cs'.length=k)(hfl:(cs.all qkw&&cs'.all qkw)=fl)(hsm:Nat.ble k 1000000=true)(hd:qak n (some s)=true)
  (hk:K .normal ⟨(s,.os id 0 2)::env,(id,⟨k,fl,[cs,cs']⟩)::hp,nx,n⟩):qap P (.buildSlice t 2 #[(0,x),(1,y)]) id (some s) ⟨env,hp,nx,n⟩ K:=qBe h h' rfl rfl rfl rfl hzl hl hl' hfl (Nat.le_of_ble_eq_true hsm) hd hk
theorem qdl{h:Nat→Option Blk}{m:Nat}{d:D}(hs:qa0 d=true):pur h (m+1) d=some d:=by
 cases d<;>first|(cases hs;done)|rfl
theorem qpn{h:Nat→Option Blk}:∀{cs:List D} {m:Nat},cs.length<m→cs.all qa0=true→qbX h m cs=some cs
 |[],m+1,_,_=>rfl
 |c::cs,m+2,hm,hs=>by
  simp only[List.all_cons,Bool.and_eq_true]at hs
  simp only[qbX,qdl (m:=m) hs.1,qpn (cs:=cs) (m:=m+1) (by simp at hm;omega) hs.2]
  rfl
theorem qeB{h:Nat→Option Blk}{d:D}(hs:qb8 d=true)(hl:Nat.ble (qdv d) 60=true):pur h 64 d=some d:=by
 cases d with
 |agg cs=>
  have:cs.length≤60:=Nat.le_of_ble_eq_true hl
  show(qbX h 63 cs).map D.agg=_
  rw[qpn (by omega) hs]
  rfl
 |_=>exact qdl (m:=63) hs
theorem qsm{r1 r2:ResultVar}{d1 d2:D}(h1:qb7 P ⟨env,hp,nx,n⟩ r1=some d1)(h2:qb7 P ⟨env,hp,nx,n⟩ r2=some d2)(p1:(qb8 d1&&Nat.ble (qdv d1) 60)=true)(p2:(qb8 d2&&Nat.ble (qdv d2) 60)=true):Fin P [r1,r2] ⟨env,hp,nx,n⟩ (.tup [d1,d2]):=by
 simp only[Bool.and_eq_true]at p1 p2
 exact qIt (ds:=[d1,d2]) (by simp[h1,h2]) ⟨qeB p1.1 p1.2,qeB p2.1 p2.2,trivial⟩ (by simp)
theorem qsn{r1 r2 r3:ResultVar}{d1 d2 d3:D}(h1:qb7 P ⟨env,hp,nx,n⟩ r1=some d1)(h2:qb7 P ⟨env,hp,nx,n⟩ r2=some d2)(h3:qb7 P ⟨env,hp,nx,n⟩ r3=some d3)(p1:(qb8 d1&&Nat.ble (qdv d1) 60)=true)(p2:(qb8 d2&&Nat.ble (qdv d2) 60)=true)(p3:(qb8 d3&&Nat.ble (qdv d3) 60)=true):
  Fin P [r1,r2,r3] ⟨env,hp,nx,n⟩ (.tup [d1,d2,d3]):=by
 simp only[Bool.and_eq_true]at p1 p2 p3
 exact qIt (ds:=[d1,d2,d3]) (by simp[h1,h2,h3]) ⟨qeB p1.1 p1.2,qeB p2.1 p2.2,qeB p3.1 p3.2,trivial⟩ (by simp)
theorem qEG{r1 r2:ResultVar}{d1 d2 r:D}(h1:qb7 P ⟨env,hp,nx,n⟩ r1=some d1)(h2:qb7 P ⟨env,hp,nx,n⟩ r2=some d2)(p1:(qb8 d1&&Nat.ble (qdv d1) 60)=true)(p2:(qb8 d2&&Nat.ble (qdv d2) 60)=true)(e:D.tup [d1,d2]=r):qg3 P [r1,r2] (.ret r) .ret ⟨env,hp,nx,n⟩:=e▸qbs (qsm h1 h2 p1 p2)
theorem qCt{r1 r2:ResultVar}{d1 d2 r:D}(h1:qb7 P ⟨env,hp,nx,n⟩ r1=some d1)(h2:qb7 P ⟨env,hp,nx,n⟩ r2=some d2)(p1:(qb8 d1&&Nat.ble (qdv d1) 60)=true)(p2:(qb8 d2&&Nat.ble (qdv d2) 60)=true)(e:D.tup [d1,d2]=r):qg3 P [r1,r2] (.ret r) .normal ⟨env,hp,nx,n⟩:=e▸qdB (qsm h1 h2 p1 p2)
theorem qEH{r1 r2 r3:ResultVar}{d1 d2 d3 r:D}(h1:qb7 P ⟨env,hp,nx,n⟩ r1=some d1)(h2:qb7 P ⟨env,hp,nx,n⟩ r2=some d2)(h3:qb7 P ⟨env,hp,nx,n⟩ r3=some d3)(p1:(qb8 d1&&Nat.ble (qdv d1) 60)=true)(p2:(qb8 d2&&Nat.ble (qdv d2) 60)=true)(p3:(qb8 d3&&Nat.ble (qdv d3) 60)=true)
  (e:D.tup [d1,d2,d3]=r):qg3 P [r1,r2,r3] (.ret r) .ret ⟨env,hp,nx,n⟩:=e▸qbs (qsn h1 h2 h3 p1 p2 p3)
theorem qCu{r1 r2 r3:ResultVar}{d1 d2 d3 r:D}(h1:qb7 P ⟨env,hp,nx,n⟩ r1=some d1)(h2:qb7 P ⟨env,hp,nx,n⟩ r2=some d2)(h3:qb7 P ⟨env,hp,nx,n⟩ r3=some d3)(p1:(qb8 d1&&Nat.ble (qdv d1) 60)=true)(p2:(qb8 d2&&Nat.ble (qdv d2) 60)=true)(p3:(qb8 d3&&Nat.ble (qdv d3) 60)=true)
  (e:D.tup [d1,d2,d3]=r):qg3 P [r1,r2,r3] (.ret r) .normal ⟨env,hp,nx,n⟩:=e▸qdB (qsn h1 h2 h3 p1 p2 p3)
theorem qCv{rv:ResultVar}{cs:List D}{r:D}(h:qb7 P ⟨env,hp,nx,n⟩ rv=some (.agg cs))(hs:(cs.all qa0&&Nat.ble cs.length 60)=true)(e:D.agg cs=r):qg3 P [rv] (.ret r) .ret ⟨env,hp,nx,n⟩:=by
 simp only[Bool.and_eq_true]at hs
 exact e▸qbs (qy4 h (qeB (d:=.agg cs) hs.1 hs.2) rfl)
theorem qzv{rv:ResultVar}{cs:List D}{r:D}(h:qb7 P ⟨env,hp,nx,n⟩ rv=some (.agg cs))(hs:(cs.all qa0&&Nat.ble cs.length 60)=true)(e:D.agg cs=r):qg3 P [rv] (.ret r) .normal ⟨env,hp,nx,n⟩:=by
 simp only[Bool.and_eq_true]at hs
 exact e▸qdB (qy4 h (qeB (d:=.agg cs) hs.1 hs.2) rfl)
theorem qwF{b k:Nat}{fl:Bool}{row:List D}[hs:TSh P t (.many k)](h:qac env x=.op b 0 0)(hb:lkH hp b=some ⟨k,fl,[row]⟩)(hl:row.length=k)(hd:qak n (some s)=true)(hk:K .normal ⟨(s,.agg row)::env,hp,nx,n⟩):qap P (.load t x) id (some s) ⟨env,hp,nx,n⟩ K:=by
 refine qfJ (sh':=.many k) h hb ?_ hd hk
 simp only[qa5,qb6,List.getD_cons_zero,List.drop_zero]
 rw[if_pos (by omega),←hl,List.take_length]
theorem qwG{b:Nat}{fl:Bool}{c:D}[hs:TSh P t .one](h:qac env x=.op b 0 0)(hb:lkH hp b=some ⟨1,fl,[[c]]⟩)(hd:qak n (some s)=true)(hk:K .normal ⟨(s,c)::env,hp,nx,n⟩):qap P (.load t x) id (some s) ⟨env,hp,nx,n⟩ K:=
 qfJ (sh':=.one) h hb rfl hd hk
theorem quD{zs:List D}{k k':IntKind}{a b:Int}[hl:TLay P t zs [(0,1),(1,1)]](h:qac env x=.int k a)(h':qac env y=.int k' b)(hz:zs.length=2)(hd:qak n (some s)=true)(hk:K .normal ⟨(s,.agg [.int k a,.int k' b])::env,hp,nx,n⟩):
  qap P (.build t #[(0,x),(1,y)]) id (some s) ⟨env,hp,nx,n⟩ K:=by
 obtain⟨z0,z1,rfl⟩:∃z0 z1,zs=[z0,z1]:=by
  match zs,hz with
  |[z0,z1],_=>exact⟨z0,z1,rfl⟩
 refine qh9 (parts:=[(0,x),(1,y)]) ?_ hd hk
 simp only[List.map_cons,List.map_nil,h,h']
 rfl
theorem quE{zs cs:List D}{k:Nat}[hl:TLay P t zs [(0,k)]](h:qac env x=.agg cs)(hz:zs.length=k)(hc:cs.length=k)(hd:qak n (some s)=true)(hk:K .normal ⟨(s,.agg cs)::env,hp,nx,n⟩):
  qap P (.build t #[(0,x)]) id (some s) ⟨env,hp,nx,n⟩ K:=by
 subst hc
 have hs:qbo zs 0 cs=cs:=by simp[qbo,hz]
 refine qh9 (parts:=[(0,x)]) ?_ hd hk
 simp only[List.map_cons,List.map_nil,h]
 show(if known (.agg cs)=true∧cs.length=cs.length∧0+cs.length≤zs.length then qnx _ (qbo zs 0 cs) []else none)=some cs
 rw[if_pos ⟨rfl,rfl,by omega⟩,hs]
 rfl
theorem qpo{α:Type}{e:TypeId}{k:Nat}{l:List α}{f:α→List D}{ik:IntKind}{j:Int}{i:Nat}[hs:TSlice P t e k](h:qac env x=.sl (l.map f))(h2:qac env y=.int ik j)(hj:j=(i:Int))(hk:∀a,(f a).length=k)(hd:qak n (some s)=true)
  (hi:i<l.length) (hc:∀(hlt:i<l.length),K .normal ⟨(s,(.ptr (f l[i])))::env,hp,nx,n⟩):qap P (.indexAddr t x y) id (some s) ⟨env,hp,nx,n⟩ K:=by
 subst hj
 exact qsh h h2 hk hd (by omega) fun hlt=>by simpa only[Int.toNat_natCast]using hc hi
theorem qwH{cs:List D}{k:Nat}[hs:TSh P t (.many k)](h:qac env x=.ptr cs)(hl:cs.length=k)(hd:qak n (some s)=true)(hk:K .normal ⟨(s,.agg cs)::env,hp,nx,n⟩):qap P (.load t x) id (some s) ⟨env,hp,nx,n⟩ K:=by
 refine qwi (sh':=.many k) h ?_ hd hk
 simp only[qa5]
 rw[if_pos (by omega),←hl,List.take_length]
def qfm{α:Type}(f:α→List D)(k:Nat):Prop:=∀a,(f a).length=k∧(f a).all qa0=true
theorem quF{d:D}(h:qa0 d=true):qkw d=true:=by cases d<;>first|(cases h;done)|rfl
theorem qmU{d:D}{b:Nat}(h:qa0 d=true):qep b d=false:=by cases d<;>first|(cases h;done)|rfl
theorem qdS{α:Type}{f:α→List D}{k:Nat}(hf:qfm f k)(l:List α):qan (l.map f)=true:=by
 simp only[qan,List.all_map,List.all_eq_true,Function.comp]
 exact fun a _ c hc=>quF (List.all_eq_true.1 (hf a).2 c hc)
theorem qia{α:Type}{f:α→List D}{k:Nat}(hf:qfm f k)(l:List α):qey (l.map f)=true:=by
 simp only[qey,List.all_map,List.all_eq_true,Function.comp]
 exact fun a _ c hc=>List.all_eq_true.1 (hf a).2 c hc
theorem qaH{α:Type}{f:α→List D}{e k b b2 len:Nat}{l:List α}{a:α}{fl2:Bool}[hs:TSlice P t e k](hf:qfm f k)(h1:qac env x=.os b 0 len)(h2:qac env y=.os b2 0 1)(hb:lkH hp b=some ⟨k,true,l.map f⟩)(hlen:l.length=len)(hb2:lkH hp b2=some ⟨k,fl2,[f a]⟩)
  (hc1:((f a).all qhk)=true) (hz:qjB P e=true) (hby:Nat.ble (P.bytesOf e) 4096=true) (hn:len≤1000000000) (hd:qak n (some s)=true)
  (hk:K .normal ⟨(s,.os b 0 (len+1))::qfZ b env,(b,⟨k,true,(l++[a]).map f⟩)::qg9 b hp,nx,n⟩):qap P (.call {callee:=.builtin .append,args:= #[x,y],argTypes:= #[t,t]}) id (some s) ⟨env,hp,nx,n⟩ K:=by
 have hby':P.bytesOf e≤4096:=Nat.le_of_ble_eq_true hby
 have hap:qcN P (lkH hp) t (qac env x) (qac env y)=some (some b,⟨k,true,(l++[a]).map f⟩):=by
  have hx:qaY (lkH hp) (.os b2 0 1)=some [f a]:=by simp[qaY,hb2]
  have ho:qaY (lkH hp) (.os b 0 len)=some (l.map f):=by
   simp only[qaY,hb,Option.bind_some]
   rw[if_pos (by simp[hlen])]
   rw[List.drop_zero,List.take_of_length_le (by simp[hlen])]
  unfold qcN
  rw[hs.u,h1,h2]
  simp only[hx,ho,Option.bind_some]
  have hmul:(len+1)*P.bytesOf e≤140737488355328:=by
   have:=Nat.mul_le_mul (show len+1≤1000000001 by omega) hby'
   omega
  rw[if_pos]
  ·rw[hb]
   simp only[Option.bind_some]
   rw[if_pos]
   ·have hft:qan [f a]=true:=by
     have:=qdS hf [a]
     simpa using this
    simp[hs.c,hft]
   ·refine⟨.inl hs.c.symm,fun r hr c hc=>?_⟩
    have:∃a',r=f a':=by
     simp only[List.mem_append,List.mem_map,List.mem_singleton]at hr
     rcases hr with⟨a',_,rfl⟩|rfl
     ·exact⟨a',rfl⟩
     ·exact⟨a,rfl⟩
    obtain⟨a',rfl⟩:=this
    exact qmU (List.all_eq_true.1 (hf a').2 c hc)
  ·refine⟨by rw[hs.c];exact hs.p,fun r hr=>?_,fun r hr c hc=>?_,by simp[hlen];exact hmul,by simp[hlen];omega,hz,by simp[kOK,hb2,hs.c]⟩
   ·simp only[List.mem_singleton]at hr
    rw[hr,(hf a).1,hs.c]
   ·simp only[List.mem_singleton]at hr
    subst hr
    exact List.all_eq_true.1 hc1 c hc
 refine qgn hap hd ?_
 have e:(⟨k,true,(l++[a]).map f⟩:Blk).rows.length=len+1:=by simp[hlen]
 rw[e]
 exact hk
theorem qdT{α:Type}{f:α→List D}{k:Nat}{l:List α}{args:List Operand}{ts:Array TypeId}{g:FuncId}{args':List D}(hp':qbX (lkH hp) 64 (args.map (qac env))=some args')(hc:Contract P g args' (.ret (.fr k (l.map f))))(hf:qfm f k)(hd:qak n (some s)=true)
  (h:K .normal ⟨(s,.os id 0 l.length)::env,(id,⟨k,true,l.map f⟩)::hp,nx,n⟩):qap P (.call {callee:=.value (.func g),args:=args.toArray,argTypes:=ts}) id (some s) ⟨env,hp,nx,n⟩ K:=by
 refine qbt hp' hc ?_ (by simp[qqB,qdv]) hd ?_
 ·have:qbY (.fr k (l.map f))=true:=qia hf l
  rw[this,Bool.or_true]
 ·have e:qaO id (.fr k (l.map f))=(.os id 0 l.length,[(id,⟨k,true,l.map f⟩)]):=by
   simp[qaO,adE,adC,qdS hf]
  rw[e]
  exact h
theorem qwI{α:Type}{f:α→List D}{k:Nat}{l:List α}{d2:D}{args:List Operand}{ts:Array TypeId}{g:FuncId}{args':List D}(hp':qbX (lkH hp) 64 (args.map (qac env))=some args')(hc:Contract P g args' (.ret (.tup [.fr k (l.map f),d2])))(hf:qfm f k)(h2:qa0 d2=true)(hd:qak n (some s)=true)
  (h:K .normal ⟨(s,.tup [.os id 0 l.length,d2])::env,(id,⟨k,true,l.map f⟩)::hp,nx,n⟩):qap P (.call {callee:=.value (.func g),args:=args.toArray,argTypes:=ts}) id (some s) ⟨env,hp,nx,n⟩ K:=by
 have hw:qdv d2=1:=by cases d2<;>first|(cases h2;done)|rfl
 have hr2:qj0 d2=true:=qdC (by cases d2<;>first|(cases h2;done)|rfl)
 have ha2:∀m,adE m d2=(d2,[]):=fun m=>qgp (by cases d2<;>first|(cases h2;done)|rfl)
 refine qbt hp' hc ?_ (by simp[qqB,hw];simp[qdv]) hd ?_
 ·have:qbY (.tup [.fr k (l.map f),d2])=true:=by
   simp only[qbY,List.all_cons,List.all_nil,Bool.and_true,hr2]
   exact qia hf l
  rw[this,Bool.or_true]
 ·have e:qaO id (.tup [.fr k (l.map f),d2])=(.tup [.os id 0 l.length,d2],[(id,⟨k,true,l.map f⟩)]):=by
   simp only[qaO,adT,ha2]
   simp[adE,adC,qdS hf]
  rw[e]
  exact h
theorem qpp{α:Type}{f:α→List D}{rv:ResultVar}{b k:Nat}{l l':List α}(h:qb7 P ⟨env,hp,nx,n⟩ rv=some (.os b 0 l.length))(hb:lkH hp b=some ⟨k,true,l.map f⟩)(e:l=l'):qg3 P [rv] (.ret (.fr k (l'.map f))) .ret ⟨env,hp,nx,n⟩:=by
 subst e
 exact qbs (qCi (rows':=l.map f) (by simpa using h) hb (by simp))
theorem qnV{r1 r2:ResultVar}{b k len:Nat}{rows:List (List D)}{d2:D}(h1:qb7 P ⟨env,hp,nx,n⟩ r1=some (.os b 0 len))(hlen:rows.length=len)(hb:lkH hp b=some ⟨k,true,rows⟩)(h2:qb7 P ⟨env,hp,nx,n⟩ r2=some d2)(hs:qa0 d2=true):Fin P [r1,r2] ⟨env,hp,nx,n⟩ (.tup [.fr k rows,d2]):=
 .inl ⟨[.blk b,.pure],[.os b 0 len,d2],[.fr k rows,d2],by simp[h1,h2],by simp[qbC],⟨⟨⟨k,true,rows⟩,rows,by rw[hlen],hb,rfl,by simp⟩,qdl (m:=63) hs,trivial⟩,rfl,fun h=>by simp at h⟩
theorem qnW{r1 r2:ResultVar}{k:Nat}{d2:D}(h1:qb7 P ⟨env,hp,nx,n⟩ r1=some .nilsl)(h2:qb7 P ⟨env,hp,nx,n⟩ r2=some d2)(hs:qa0 d2=true):Fin P [r1,r2] ⟨env,hp,nx,n⟩ (.tup [.fr k [],d2]):=
 .inl ⟨[.nil,.pure],[.nilsl,d2],[.fr k [],d2],by simp[h1,h2],by simp[qbC],⟨⟨rfl,k,rfl⟩,qdl (m:=63) hs,trivial⟩,rfl,fun h=>by simp at h⟩
theorem qEI{k k':IntKind}{a b:Int}{ts:Array TypeId}(h1:qac env x=.int k a)(h2:qac env y=.int k' b)(hd:qak n (some s)=true)(hk:K .normal ⟨(s,.int k (min a b))::env,hp,nx,n⟩):qap P (.call {callee:=.builtin .min,args:= #[x,y],argTypes:=ts}) id (some s) ⟨env,hp,nx,n⟩ K:=by
 have h:=qsf (P:=P) (K:=K) (env:=env) (hp:=hp) (nx:=nx) (n:=n) (id:=id) (dst:=some s) (x:=x) (xs:=[y]) (ts:=ts)
 rw[show(#[x,y]:Array Operand)=(x::[y]).toArray from rfl,h]
 refine⟨.int k (min a b),?_,hd,hk⟩
 simp only[List.map_cons,List.map_nil,qhl,h1,h2,qtZ,Option.bind_some,Option.some.injEq,D.int.injEq,true_and]
 omega
theorem qEJ{k k':IntKind}{a b:Int}{ts:Array TypeId}(h1:qac env x=.int k a)(h2:qac env y=.int k' b)(hd:qak n (some s)=true)(hk:K .normal ⟨(s,.int k (max a b))::env,hp,nx,n⟩):qap P (.call {callee:=.builtin .max,args:= #[x,y],argTypes:=ts}) id (some s) ⟨env,hp,nx,n⟩ K:=by
 have h:=qsg (P:=P) (K:=K) (env:=env) (hp:=hp) (nx:=nx) (n:=n) (id:=id) (dst:=some s) (x:=x) (xs:=[y]) (ts:=ts)
 rw[show(#[x,y]:Array Operand)=(x::[y]).toArray from rfl,h]
 refine⟨.int k (max a b),?_,hd,hk⟩
 simp only[List.map_cons,List.map_nil,qhl,h1,h2,qt0,Option.bind_some,Option.some.injEq,D.int.injEq,true_and]
 omega
theorem qwJ{zs:List D}{d1 d2 d3:D}{z:Operand}[hl:TLay P t zs [(0,1),(1,1),(2,1)]](h1:qac env x=d1)(h2:qac env y=d2)(h3:qac env z=d3)(hz:zs.length=3)(p:(qa0 d1&&qa0 d2&&qa0 d3&&known d1&&known d2&&known d3)=true)(hd:qak n (some s)=true)(hk:K .normal ⟨(s,.agg [d1,d2,d3])::env,hp,nx,n⟩):
  qap P (.build t #[(0,x),(1,y),(2,z)]) id (some s) ⟨env,hp,nx,n⟩ K:=by
 obtain⟨z0,z1,z2,rfl⟩:∃z0 z1 z2,zs=[z0,z1,z2]:=by
  match zs,hz with
  |[z0,z1,z2],_=>exact⟨z0,z1,z2,rfl⟩
 simp only[Bool.and_eq_true]at p
 obtain⟨⟨⟨⟨⟨p1,p2⟩,p3⟩,p4⟩,p5⟩,p6⟩:=p
 have hc:∀d,qa0 d=true→qai d=[d]:=fun d h=>by cases d<;>first|(cases h;done)|rfl
 refine qh9 (parts:=[(0,x),(1,y),(2,z)]) ?_ hd hk
 simp only[List.map_cons,List.map_nil,h1,h2,h3]
 simp only[qnx,List.getElem?_cons_zero,List.getElem?_cons_succ,hc _ p1,hc _ p2,hc _ p3,p4,p5,p6]
 rfl
theorem quG{zs:List D}{a:ByteArray}{k k':IntKind}{b c:Int}{z:Operand}[hl:TLay P t zs [(0,1),(1,1),(2,1)]](h1:qac env x=.str a)(h2:qac env y=.int k b)(h3:qac env z=.int k' c)(hz:zs.length=3)(hd:qak n (some s)=true)(hk:K .normal ⟨(s,.agg [.str a,.int k b,.int k' c])::env,hp,nx,n⟩):
  qap P (.build t #[(0,x),(1,y),(2,z)]) id (some s) ⟨env,hp,nx,n⟩ K:=qwJ h1 h2 h3 hz rfl hd hk
theorem quH{zs:List D}{k k' k2:IntKind}{a b c:Int}{z:Operand}[hl:TLay P t zs [(0,1),(1,1),(2,1)]](h1:qac env x=.int k a)(h2:qac env y=.int k' b)(h3:qac env z=.int k2 c)(hz:zs.length=3)(hd:qak n (some s)=true)(hk:K .normal ⟨(s,.agg [.int k a,.int k' b,.int k2 c])::env,hp,nx,n⟩):
  qap P (.build t #[(0,x),(1,y),(2,z)]) id (some s) ⟨env,hp,nx,n⟩ K:=qwJ h1 h2 h3 hz rfl hd hk
theorem quI{ks:List Kd}{a b:List D}{q:Bool}[he:TEq P t ks](h1:qac env x=.agg a)(h2:qac env y=.agg b)(hq:qcA ks a b=some q)(hd:qak n (some s)=true)(hk:K .normal ⟨(s,.bool !q)::env,hp,nx,n⟩):qap P (.binOp .neq t x y t') id (some s) ⟨env,hp,nx,n⟩ K:=
 qaz (d:=.bool !q) (by rw[h1,h2];simp[qoG,he.h,hq]) hd hk
theorem quJ{ks:List Kd}{a b:List D}{q:Bool}[he:TEq P t ks](h1:qac env x=.agg a)(h2:qac env y=.agg b)(hq:qcA ks a b=some q)(hd:qak n (some s)=true)(hk:K .normal ⟨(s,.bool q)::env,hp,nx,n⟩):qap P (.binOp .eql t x y t') id (some s) ⟨env,hp,nx,n⟩ K:=
 qaz (d:=.bool q) (by rw[h1,h2];simp[qoG,he.h,hq]) hd hk
theorem qpq{len k:Nat}{b row off:Nat}{blk:Blk}{ik:IntKind}{i:Int}[ha:TArr P t len k](h:qac env x=.op b row off)(h2:qac env y=.int ik i)(hb:lkH hp b=some blk)(hd:qak n (some s)=true)(hi:0≤i∧i<len)
  (hk:K .normal ⟨(s,.op b row (off+i.toNat*k))::env,hp,nx,n⟩):qap P (.indexAddr t x y) id (some s) ⟨env,hp,nx,n⟩ K:=by
 rw[qe6]
 refine⟨.op b row (off+i.toNat*k),?_,hd,hk⟩
 obtain⟨e,hu,hc,hp0⟩:=ha.h
 rw[h,h2]
 simp only[qdc,hu,hb]
 rw[if_pos ⟨hi.1,hi.2,by omega⟩,hc]
theorem qfL{h:Nat→Option Blk}{b k len m:Nat}{rows:List (List D)}(hb:h b=some ⟨k,true,rows⟩)(hl:rows.length=len):pur h (m+1) (.os b 0 len)=some (.sl rows):=by
 simp only[pur,hb,Option.bind_some]
 rw[if_pos (by omega),List.drop_zero,List.take_of_length_le (by omega)]
 rfl
end
section
variable {P:Program}{K:X→St→Prop}{env:Env}{hp:Hp}{nx n id:Nat}{s:Tmp}{x y f:Operand}{t t':TypeId}
theorem qmV{α:Type}{l:List α}{f:α→List D}{i:Nat}(hi:i<l.length):qb6 (l.map f) i=f l[i]:=by
 simp[qb6,List.getD_eq_getElem?_getD,hi]
theorem qhs{α:Type}{e:TypeId}{k k' b len:Nat}{fl:Bool}{l:List α}{f:α→List D}{ik:IntKind}{j:Int}{i:Nat}[hs:TSlice P t e k](h:qac env x=.os b 0 len)(h2:qac env y=.int ik j)(hb:lkH hp b=some ⟨k',fl,l.map f⟩)(hj:j=(i:Int))
  (hd:qak n (some s)=true) (hkk:k'=k) (hi:i<len∧len≤l.length) (hc:∀(hlt:i<l.length),K .normal ⟨(s,(.op b i 0))::env,hp,nx,n⟩):qap P (.indexAddr t x y) id (some s) ⟨env,hp,nx,n⟩ K:=by
 subst hj
 refine qgo h h2 hb hd hkk ⟨by omega,?_⟩ ?_
 ·show 0+len≤(l.map f).length
  rw[List.length_map];omega
 ·simpa only[Int.toNat_natCast,Nat.zero_add]using hc (by omega)
theorem quK{α:Type}{sh':Sh}{b i o k:Nat}{fl:Bool}{l:List α}{f:α→List D}{d:D}[hs:TSh P t sh'](h:qac env x=.op b i o)(hb:lkH hp b=some ⟨k,fl,l.map f⟩)(hi:i<l.length)(hc:qa5 sh' ((f l[i]).drop o)=some d)(hd:qak n (some s)=true)
  (hk:K .normal ⟨(s,d)::env,hp,nx,n⟩):qap P (.load t x) id (some s) ⟨env,hp,nx,n⟩ K:=
 qfJ h hb (by show qa5 sh' ((qb6 (l.map f) i).drop o)=some d;rw[qmV hi];exact hc) hd hk
end
section
variable {P:Program}{K:X→St→Prop}{env:Env}{hp:Hp}{nx n id:Nat}{s:Tmp}{x y f:Operand}{t t':TypeId}
theorem qfn{α:Type}{f:α→List D}{e k b2:Nat}{a:α}{fl2:Bool}[hs:TSlice P t e k](hf:qfm f k)(h1:qac env x=.nilsl)(h2:qac env y=.os b2 0 1)(hb2:lkH hp b2=some ⟨k,fl2,[f a]⟩)
  (hc1:((f a).all qhk)=true) (hz:qjB P e=true) (hby:Nat.ble (P.bytesOf e) 4096=true):qcN P (lkH hp) t (qac env x) (qac env y)=some (none,⟨k,true,[a].map f⟩):=by
 have hby':P.bytesOf e≤4096:=Nat.le_of_ble_eq_true hby
 have hx:qaY (lkH hp) (.os b2 0 1)=some [f a]:=by simp[qaY,hb2]
 unfold qcN
 rw[hs.u,h1,h2]
 have ho:qaY (lkH hp) .nilsl=some []:=rfl
 simp only[hx,ho,Option.bind_some]
 have hft:qan [f a]=true:=by
  have:=qdS hf [a]
  simpa using this
 rw[if_pos]
 ·simp[hs.c,hft]
 ·refine⟨by rw[hs.c];exact hs.p,fun r hr=>?_,fun r hr c hc=>?_,by simp;omega,by simp,hz,by simp[kOK,hb2,hs.c]⟩
  ·simp only[List.mem_singleton]at hr
   rw[hr,(hf a).1,hs.c]
  ·simp only[List.mem_singleton]at hr
   subst hr
   exact List.all_eq_true.1 hc1 c hc
end
section
variable {P:Program}{E:St→St→Prop}{K:X→St→Prop}{env:Env}{hp:Hp}{nx n id:Nat}{s:Tmp}{x y f:Operand}{t t':TypeId}
theorem qib{σ:Type}(μ:σ→Nat)(S:σ→St)(C:σ→Prop)(x0:σ){c:Code}{st:St}(he:E st (S x0))(h0:C x0)
  (h:∀x,C x→evG E P c (qo6 (fun st'=>∃y,μ y<μ x∧C y∧E st' (S y)) K) (S x)):evG E P (.loop c) K st:=by
 refine qwo (fun m s=>∃x,m=μ x∧C x∧s=S x) (μ x0) (S x0) he ⟨x0,rfl,h0,rfl⟩ ?_
 rintro m s ⟨x,rfl,hC,rfl⟩
 have:=h x hC
 have key:∀(c:Code) (f g:St→Prop) (s:St),(∀st,f st→g st)→evG E P c (qo6 f K) s→evG E P c (qo6 g K) s:=fun c f g s hfg=>qqV c _ _ s fun x st hx=>by
  cases x<;>first|exact hfg st hx|exact hx
 refine key c _ _ _ (fun st' ⟨y,h1,h2,h3⟩=>?_) this
 exact⟨μ y,S y,h1,h3,y,rfl,h2,rfl⟩
theorem qaF{α:Type}{b i off k k':Nat}{v:D}{fl:Bool}{l:List α}{f:α→List D}{a:α}[hc:TCells P t k](ha:qac env x=.op b i off)(hv:qac env y=v)(hb:lkH hp b=some ⟨k',fl,l.map f⟩)(hi:i<l.length)(hkn:known v=true)(hl:(qai v).length=k)(h1:(qai v).all qhk=true)(h2:(qai v).all qkw=true)
  (hfit:off+k≤k') (hs:qbo (f l[i]) off (qai v)=f a) (hk:K .normal ⟨env,qj1 b ⟨k',fl,(l.set i a).map f⟩ hp,nx,n⟩):
  qap P (.store t x y) id none ⟨env,hp,nx,n⟩ K:=by
 refine qnS (rows:=(l.set i a).map f) (fl:=fl) ha hv hb hkn hl h1 hfit (by simpa using hi) ?_ (by simp[h2]) hk
 show(l.map f).set i (qbo (qb6 (l.map f) i) off (qai v))=_
 rw[qmV hi,hs,List.map_set]
def qi9:D→Bool
 |.int .. |.bool _|.str _|.sl _|.ptr _=>true
 |_=>false
theorem qk5{h:Nat→Option Blk}{m:Nat}{c:D}(hc:qi9 c=true):pur h (m+1) c=some c:=by
 cases c<;>first|(cases hc;done)|rfl
theorem qja{h hX:Nat→Option Blk}{b k len:Nat}{rows:List (List D)}(hb:h b=some ⟨k,true,rows⟩)(hlen:rows.length=len):∀{cs tl tr:List D} {ss:List Src},cs.all qi9=true→qoH h hX ss tl tr→
  qoH h hX (cs.map (fun _=>Src.pure)++ .blk b::ss) (cs++ .os b 0 len::tl) (cs++ .fr k rows::tr)
 |[],_,_,_,_,ht=>⟨⟨⟨k,true,rows⟩,rows,by rw[hlen],hb,rfl,by simp⟩,ht⟩
 |c::cs,_,_,_,hc,ht=>by
  simp only[List.all_cons,Bool.and_eq_true]at hc
  exact⟨qk5 (m:=63) hc.1,qja hb hlen hc.2 ht⟩
theorem qht{b:Nat}{ss:List Src}:∀(cs:List D),qbC (cs.map (fun _=>Src.pure)++ .blk b::ss)=b::qbC ss
 |[]=>rfl
 |c::cs=>by simp only[List.map_cons,List.cons_append,qbC];exact qht cs
theorem qpr(cs:List D):qai (.agg cs)=cs:=rfl
theorem qzw(cs:List D):qj0 (.agg cs)=cs.all qqK:=rfl
theorem qgq{c:D}(h:qi9 c=true):qcj c=true:=by cases c<;>first|(cases h;done)|rfl
theorem qq0{rv:ResultVar}{cs:List D}{b k len:Nat}{rows:List (List D)}(h:qb7 P ⟨env,hp,nx,n⟩ rv=some (.agg (cs++[.os b 0 len])))(hb:lkH hp b=some ⟨k,true,rows⟩)(hlen:rows.length=len)(hc:cs.all qi9=true):Fin P [rv] ⟨env,hp,nx,n⟩ (.agg (cs++[.fr k rows])):=by
 refine .inr ⟨cs.map (fun _=>Src.pure)++[.blk b],[.agg (cs++[.os b 0 len])],[.agg (cs++[.fr k rows])],by simp[h],by rw[qht];simp[qbC],?_,rfl,fun _=>rfl,by simp[qcj,qai],?_⟩
 ·simp only[List.flatMap_cons,List.flatMap_nil,List.append_nil,qai]
  exact qja hb hlen hc trivial
 ·simp only[List.flatMap_cons,List.flatMap_nil,List.append_nil,qai,List.all_append,List.all_cons,List.all_nil,Bool.and_true,Bool.and_eq_true]
  exact⟨List.all_eq_true.2 fun c h=>qgq (List.all_eq_true.1 hc c h),rfl⟩
theorem qso{r1 r2:ResultVar}{cs:List D}{b k len:Nat}{rows:List (List D)}{d2:D}(h:qb7 P ⟨env,hp,nx,n⟩ r1=some (.agg (cs++[.os b 0 len])))(hb:lkH hp b=some ⟨k,true,rows⟩)(hlen:rows.length=len)(hc:cs.all qi9=true)(h2:qb7 P ⟨env,hp,nx,n⟩ r2=some d2)(hs:qi9 d2=true):
  Fin P [r1,r2] ⟨env,hp,nx,n⟩ (.tup [.agg (cs++[.fr k rows]),d2]):=by
 have hd2:qai d2=[d2]:=by cases d2<;>first|(cases hs;done)|rfl
 refine .inr ⟨cs.map (fun _=>Src.pure)++[.blk b,.pure],[.agg (cs++[.os b 0 len]),d2],[.agg (cs++[.fr k rows]),d2],by simp[h,h2],by rw[qht];simp[qbC],?_,rfl,fun h=>by simp at h,by simp[qcj,qai],?_⟩
 ·simp only[List.flatMap_cons,List.flatMap_nil,List.append_nil,qpr,hd2,List.append_assoc,List.cons_append,List.nil_append]
  exact qja hb hlen hc ⟨qk5 (m:=63) hs,trivial⟩
 ·simp only[List.flatMap_cons,List.flatMap_nil,List.append_nil,qpr,hd2,List.all_append,List.all_cons,List.all_nil,Bool.and_true,Bool.and_eq_true]
  exact⟨⟨List.all_eq_true.2 fun c h=>qgq (List.all_eq_true.1 hc c h),rfl⟩,qgq hs⟩
theorem qhu{α:Type}{f:α→List D}{rv:ResultVar}{b k len:Nat}{l l':List α}(h:qb7 P ⟨env,hp,nx,n⟩ rv=some (.os b 0 len))(hb:lkH hp b=some ⟨k,true,l.map f⟩)(hlen:l.length=len)(e:l=l'):qg3 P [rv] (.ret (.fr k (l'.map f))) .ret ⟨env,hp,nx,n⟩:=by
 subst hlen
 exact qpp h hb e
theorem qk6{k:Nat}{rows:List (List D)}:∀{cs:List D} {m:Nat},cs.all qi9=true→adL m (cs++[.fr k rows])=(cs++[.os (m+cs.length) 0 rows.length],[(m+cs.length,⟨k,qan rows,rows⟩)])
 |[],m,_=>by simp[adL,adC]
 |c::cs,m,h=>by
  simp only[List.all_cons,Bool.and_eq_true]at h
  have hc:adC m c=(c,[]):=by cases c<;>first|rfl|(exact absurd h.1 (by simp[qi9]))
  simp only[List.cons_append,adL,hc,qk6 (cs:=cs) (m:=m+1) h.2,List.nil_append,List.length_cons]
  rw[show m+1+cs.length=m+(cs.length+1)by omega]
theorem qBf{h:Nat→Option Blk}{b len k m:Nat}{rows:List (List D)}(hb:h b=some ⟨k,true,rows⟩)(hl:rows.length=len):pur h (m+1) (.os b 0 len)=some (.sl rows):=by
 simp only[pur,hb,Option.bind_some]
 rw[if_pos (by omega)]
 simp[←hl]
theorem qmW{h:Nat→Option Blk}{b len k:Nat}{rows:List (List D)}(hb:h b=some ⟨k,true,rows⟩)(hl:rows.length=len):∀{cs:List D} {m:Nat},cs.length+1<m→cs.all qi9=true→qbX h m (cs++[.os b 0 len])=some (cs++[.sl rows])
 |[],m+2,_,_=>by simp only[List.nil_append,qbX,qBf hb hl,Option.bind_some,Option.map_some]
 |c::cs,m+2,hm,hs=>by
  simp only[List.all_cons,Bool.and_eq_true]at hs
  simp only[List.length_cons]at hm
  simp only[List.cons_append,qbX,qk5 (m:=m) hs.1,qmW hb hl (cs:=cs) (m:=m+1) (by omega) hs.2,Option.bind_some,Option.map_some]
 |_::_,0,hm,_=>absurd hm (by simp)
 |_::_,1,hm,_=>absurd hm (by simp)
 |[],0,hm,_=>absurd hm (by simp)
 |[],1,hm,_=>absurd hm (by simp)
theorem qnX{h:Nat→Option Blk}{b len k:Nat}{rows:List (List D)}{cs ds rs:List D}(hb:h b=some ⟨k,true,rows⟩)(hl:rows.length=len)(hc:cs.all qi9=true)(hn:Nat.ble cs.length 40=true)(hr:qbX h 63 ds=some rs):
  qbX h 64 (.agg (cs++[.os b 0 len])::ds)=some (.agg (cs++[.sl rows])::rs):=by
 have hn':=Nat.le_of_ble_eq_true hn
 have e:pur h 63 (.agg (cs++[.os b 0 len]))=some (.agg (cs++[.sl rows])):=by
  show(qbX h 62 _).map D.agg=_
  rw[qmW hb hl (by omega) hc]
  rfl
 show(pur h 63 _).bind _=_
 rw[e]
 simp only[Option.bind_some,hr,Option.map_some]
theorem qic{α:Type}{f:α→List D}{k q:Nat}{l:List α}{cs:List D}{args:List Operand}{ts:Array TypeId}{g:FuncId}{args':List D}(hp':qbX (lkH hp) 64 (args.map (qac env))=some args')(hc:Contract P g args' (.ret (.agg (cs++[.fr k (l.map f)]))))(hf:qfm f k)(hcs:cs.all qi9=true)(hq:cs.length=q)(hw:Nat.ble q 31=true)
  (hr:qbV (args.map (qac env))=true) (hd:qak n (some s)=true)
  (h:K .normal ⟨(s,.agg (cs++[.os (id+q) 0 l.length]))::env,(id+q,⟨k,true,l.map f⟩)::hp,nx,n⟩):qap P (.call {callee:=.value (.func g),args:=args.toArray,argTypes:=ts}) id (some s) ⟨env,hp,nx,n⟩ K:=by
 subst hq
 have hw':=Nat.le_of_ble_eq_true hw
 refine qbt hp' hc (by rw[hr,Bool.true_or]) (by simp[qqB,qdv];omega) hd ?_
 have e:qaO id (.agg (cs++[.fr k (l.map f)]))=(.agg (cs++[.os (id+cs.length) 0 l.length]),[(id+cs.length,⟨k,true,l.map f⟩)]):=by
  simp[qaO,adE,qk6 hcs,qdS hf]
 rw[e]
 exact h
theorem quL{α:Type}{f:α→List D}{k q:Nat}{l:List α}{cs:List D}{d2:D}{args:List Operand}{ts:Array TypeId}{g:FuncId}{args':List D}(hp':qbX (lkH hp) 64 (args.map (qac env))=some args')(hc:Contract P g args' (.ret (.tup [.agg (cs++[.fr k (l.map f)]),d2])))(hf:qfm f k)(hcs:cs.all qi9=true)(hq:cs.length=q)(hw:Nat.ble q 30=true)
  (h2:qi9 d2=true) (hr:(cs.all qa0&&qa0 d2)=true) (hd:qak n (some s)=true)
  (h:K .normal ⟨(s,.tup [.agg (cs++[.os (id+q) 0 l.length]),d2])::env,(id+q,⟨k,true,l.map f⟩)::hp,nx,n⟩):qap P (.call {callee:=.value (.func g),args:=args.toArray,argTypes:=ts}) id (some s) ⟨env,hp,nx,n⟩ K:=by
 subst hq
 have hw':=Nat.le_of_ble_eq_true hw
 simp only[Bool.and_eq_true]at hr
 have w2:qdv d2=1:=by cases d2<;>first|(cases h2;done)|rfl
 have ha2:∀m,adE m d2=(d2,[]):=fun m=>by cases d2<;>first|(cases h2;done)|rfl
 have r2:qj0 d2=true:=qdC (by cases d2<;>first|(cases h2;done)|exact hr.2)
 refine qbt hp' hc ?_ (by simp[qqB,w2];simp[qdv];omega) hd ?_
 ·have:qbY (.tup [.agg (cs++[.fr k (l.map f)]),d2])=true:=by
   simp only[qbY,List.all_cons,List.all_nil,Bool.and_true,r2,qzw,List.all_append]
   rw[Bool.and_eq_true]
   refine⟨List.all_eq_true.2 fun c hc=>?_,qia hf l⟩
   have h1:=List.all_eq_true.1 hcs c hc
   have h2:=List.all_eq_true.1 hr.1 c hc
   cases c<;>first|(cases h1;done)|(cases h2;done)|rfl
  rw[this,Bool.or_true]
 have e:qaO id (.tup [.agg (cs++[.fr k (l.map f)]),d2])=(.tup [.agg (cs++[.os (id+cs.length) 0 l.length]),d2],[(id+cs.length,⟨k,true,l.map f⟩)]):=by
  simp only[qaO,adT,ha2]
  simp[adE,qk6 hcs,qdS hf]
 rw[e]
 exact h
end
theorem qbT{h:Nat→Option Blk}{b len k:Nat}{rows:List (List D)}{ds rs:List D}(hb:h b=some ⟨k,true,rows⟩)(hl:rows.length=len)(hr:qbX h 63 ds=some rs):qbX h 64 (.os b 0 len::ds)=some (.sl rows::rs):=by
 show(pur h 63 _).bind _=_
 rw[qBf hb hl]
 simp only[Option.bind_some,hr,Option.map_some]
section
variable {P:Program}{K:X→St→Prop}{env:Env}{hp:Hp}{nx n id:Nat}{s:Tmp}{x y:Operand}{t:TypeId}
theorem qk7{α:Type}{f:α→List D}{e k b:Nat}{l:List α}[hs:TSlice P t e k](hf:qfm f k)(h1:qac env x=.os b 0 0)(h2:qac env y=.sl (l.map f))(hb:lkH hp b=some ⟨0,true,[]⟩)
  (hc1:∀a,((f a).all qhk)=true) (hz:qjB P e=true) (hby:Nat.ble (P.bytesOf e) 4096=true) (hn:l.length≤1000000000) (hd:qak n (some s)=true)
  (hk:K .normal ⟨(s,.os b 0 l.length)::qfZ b env,(b,⟨k,true,l.map f⟩)::qg9 b hp,nx,n⟩):qap P (.call {callee:=.builtin .append,args:= #[x,y],argTypes:= #[t,t]}) id (some s) ⟨env,hp,nx,n⟩ K:=by
 have hby':P.bytesOf e≤4096:=Nat.le_of_ble_eq_true hby
 have hap:qcN P (lkH hp) t (qac env x) (qac env y)=some (some b,⟨k,true,l.map f⟩):=by
  have ho:qaY (lkH hp) (.os b 0 0)=some []:=by simp[qaY,hb]
  unfold qcN
  rw[hs.u,h1,h2]
  have hx:qaY (lkH hp) (.sl (l.map f))=some (l.map f):=rfl
  simp only[hx,ho,Option.bind_some]
  have hmul:l.length*P.bytesOf e≤140737488355328:=by
   have:=Nat.mul_le_mul hn hby'
   omega
  rw[if_pos]
  ·rw[hb]
   simp only[Option.bind_some]
   rw[if_pos]
   ·simp[hs.c,qdS hf]
   ·refine⟨.inr (by trivial),fun r hr c hc=>?_⟩
    simp only[List.nil_append]at hr
    obtain⟨a,_,rfl⟩:=List.mem_map.1 hr
    exact qmU (List.all_eq_true.1 (hf a).2 c hc)
  ·refine⟨by rw[hs.c];exact hs.p,fun r hr=>?_,fun r hr c hc=>?_,by simpa using hmul,by simp;omega,hz,rfl⟩
   ·obtain⟨a,_,rfl⟩:=List.mem_map.1 hr
    rw[(hf a).1,hs.c]
   ·obtain⟨a,_,rfl⟩:=List.mem_map.1 hr
    exact List.all_eq_true.1 (hc1 a) c hc
 refine qgn hap hd ?_
 have e:(⟨k,true,l.map f⟩:Blk).rows.length=l.length:=by simp
 rw[e]
 exact hk
theorem qk8{α:Type}{f:α→List D}{e k:Nat}{l:List α}{r:TypeId}[hs:TSlice P t e k](h:qac env x=.sl (l.map f))(hne:0<l.length)(hd:qak n (some s)=true)(hk:K .normal ⟨(s,.bool false)::env,hp,nx,n⟩):
  qap P (.binOp .eql t x (.const (.slice none 0 0)) r) id (some s) ⟨env,hp,nx,n⟩ K:=by
 refine qwq (bs:=[false]) ?_ rfl ?_ rfl hd ?_
 ·simp only[op0,h];rfl
 ·simp only[qmb,qFW,hs.u,h,qEh]
  have:(l.map f).isEmpty=false:=by
   cases l with
   |nil=>simp at hne
   |cons a l=>rfl
  rw[this];rfl
 ·intro b hb
  simp only[List.mem_singleton]at hb
  subst hb
  exact hk
end
section
variable {P:Program}{K:X→St→Prop}{env:Env}{hp:Hp}{nx n id:Nat}
end
section
variable {P:Program}{K:X→St→Prop}{env:Env}{hp:Hp}{nx n id:Nat}{s:Tmp}
end
section
variable {P:Program}{E:St→St→Prop}{K:X→St→Prop}{st:St}
end
section
variable {P:Program}{E:St→St→Prop}{K:X→St→Prop}{env:Env}{hp:Hp}{nx n id:Nat}{s:Tmp}{x y u v:Operand}{t:TypeId}
end
class TArrE (P:Program) (t:TypeId) (len:outParam Nat) (e:outParam TypeId) (k:outParam Nat):Prop where
 u:P.underlying t=some (.array len e)
 c:P.cellsOf e=k
 p:0<k
section
variable {P:Program}{E:St→St→Prop}{K:X→St→Prop}{env:Env}{hp:Hp}{nx n id:Nat}{s:Tmp}{x y u v f:Operand}{t:TypeId}
theorem quM{e k:Nat}{z:D}{c1 c2 c3:List D}{fl:Bool}[hs:TSlice P t e k][hz:TZero P e z](h1:qac env x=.agg c1)(h2:qac env y=.agg c2)(h3:qac env u=.agg c3)(hzl:(qai z).length=k)(hl1:c1.length=k)(hl2:c2.length=k)(hl3:c3.length=k)
  (hfl:qan [c1,c2,c3]=fl) (hsm:Nat.ble k 1000000=true) (hd:qak n (some s)=true)
  (hk:K .normal ⟨(s,.os id 0 3)::env,(id,⟨k,fl,[c1,c2,c3]⟩)::hp,nx,n⟩):qap P (.buildSlice t 3 #[(0,x),(1,y),(2,u)]) id (some s) ⟨env,hp,nx,n⟩ K:=by
 subst hfl
 have hsm:=Nat.le_of_ble_eq_true hsm
 have ho:op1 P (qac env) (.buildSlice t 3 #[(0,x),(1,y),(2,u)])=some (false,⟨k,qan [c1,c2,c3],[c1,c2,c3]⟩):=by
  simp only[op1,hs.u,hz.h,Option.bind_some]
  rw[if_neg (by decide),if_pos ⟨hz.k,by rw[hzl,hs.c],by rw[hs.c];exact hs.p,by rw[hs.c];omega⟩]
  simp only[List.map_cons,List.map_nil,h1,h2,h3,qef,List.replicate,List.length_cons,List.length_nil,List.length_set,qai]
  rw[if_pos ⟨rfl,by rw[hl1,hs.c],by omega⟩,if_pos ⟨rfl,by rw[hl2,hs.c],by omega⟩,if_pos ⟨rfl,by rw[hl3,hs.c],by omega⟩]
  simp[hs.c]
 unfold qap
 simp only[op0,ho]
 exact⟨hd,hk⟩
theorem quN{e k:Nat}{z:D}{c1 c2 c3 c4:List D}{fl:Bool}[hs:TSlice P t e k][hz:TZero P e z](h1:qac env x=.agg c1)(h2:qac env y=.agg c2)(h3:qac env u=.agg c3)(h4:qac env v=.agg c4)(hzl:(qai z).length=k)(hl1:c1.length=k)(hl2:c2.length=k)(hl3:c3.length=k)(hl4:c4.length=k)
  (hfl:qan [c1,c2,c3,c4]=fl) (hsm:Nat.ble k 1000000=true) (hd:qak n (some s)=true)
  (hk:K .normal ⟨(s,.os id 0 4)::env,(id,⟨k,fl,[c1,c2,c3,c4]⟩)::hp,nx,n⟩):qap P (.buildSlice t 4 #[(0,x),(1,y),(2,u),(3,v)]) id (some s) ⟨env,hp,nx,n⟩ K:=by
 subst hfl
 have hsm:=Nat.le_of_ble_eq_true hsm
 have ho:op1 P (qac env) (.buildSlice t 4 #[(0,x),(1,y),(2,u),(3,v)])=some (false,⟨k,qan [c1,c2,c3,c4],[c1,c2,c3,c4]⟩):=by
  simp only[op1,hs.u,hz.h,Option.bind_some]
  rw[if_neg (by decide),if_pos ⟨hz.k,by rw[hzl,hs.c],by rw[hs.c];exact hs.p,by rw[hs.c];omega⟩]
  simp only[List.map_cons,List.map_nil,h1,h2,h3,h4,qef,List.replicate,List.length_cons,List.length_nil,List.length_set,qai]
  rw[if_pos ⟨rfl,by rw[hl1,hs.c],by omega⟩,if_pos ⟨rfl,by rw[hl2,hs.c],by omega⟩,if_pos ⟨rfl,by rw[hl3,hs.c],by omega⟩,if_pos ⟨rfl,by rw[hl4,hs.c],by omega⟩]
  simp[hs.c]
 unfold qap
 simp only[op0,ho]
 exact⟨hd,hk⟩
theorem qps{len k:Nat}{e:TypeId}{sh':Sh}{cs:List D}{ik:IntKind}{i:Int}{d:D}[ha:TArrE P t len e k][hs:TSh P e sh'](h:qac env x=.agg cs)(h2:qac env y=.int ik i)(hd:qak n (some s)=true)(hi:0≤i∧i<len)
  (hc:qa5 sh' (cs.drop (i.toNat*k))=some d) (hk:K .normal ⟨(s,d)::env,hp,nx,n⟩):qap P (.index t x y) id (some s) ⟨env,hp,nx,n⟩ K:=by
 rw[qmQ]
 refine⟨d,?_,hd,hk⟩
 rw[h,h2]
 simp only[qmy,ha.u]
 rw[if_pos ⟨hi.1,hi.2,by rw[ha.c];exact ha.p⟩,ha.c,hs.h]
 exact hc
theorem quO{e:TypeId}{k b off len:Nat}{blk:Blk}{ik:IntKind}{i:Int}[hs:TSlice P t e k](h:qac env x=.os b off len)(h2:qac env y=.int ik i)(hb:lkH hp b=some blk)(hkk:blk.k=k)(hd:qak n (some s)=true)
  (hi:0≤i∧i≤len) (hk:K .normal ⟨(s,.os b off i.toNat)::env,hp,nx,n⟩):qap P (.slice t x none (some y) none) id (some s) ⟨env,hp,nx,n⟩ K:=by
 rw[qi6]
 refine⟨.os b off i.toNat,?_,hd,hk⟩
 simp only[Option.map_none,Option.map_some,h,h2,qjx,hs.u,qd9,hb]
 rw[if_pos hi.1]
 simp only[]
 rw[if_pos]
 ·simp
 ·exact⟨by omega,by omega,by rw[hs.c];exact hs.p,by rw[hkk,hs.c]⟩
theorem qbM{i:Nat}{l:List Oper}(h:qb0 P l l nx ⟨env,hp,nx,n⟩ K):evG E P (.region i l.toArray false) K ⟨env,hp,nx,n⟩:=.inr (.inl h)
def qEK(P:Program)(all rest:List Oper)(id:Nat)(K:X→St→Prop):X→St→Prop
 |.normal,st=>qb0 P all rest id st K
 |x,st=>K x st
theorem qf2{all rest:List Oper}{dst:Option Tmp}{op:Op}{ty:TypeId}{pos:String}{af:Array Edge}(h:qap P op id dst ⟨env,hp,nx,n⟩ (qEK P all rest (id+32) K)):
  qb0 P all ({dst:=dst,op:=op,type:=ty,pos:=pos,after:=af,guard:=none}::rest) id ⟨env,hp,nx,n⟩ K:=.inl (qcU (fun x st hx=>by cases x<;>exact hx) h)
theorem qcY{all rest:List Oper}(h:qb0 P all rest id ⟨env,hp,nx,n⟩ K):qEK P all rest id K .normal ⟨env,hp,nx,n⟩:=h
theorem qd6{all:List Oper}(h:K .normal ⟨env,hp,id,n⟩):qb0 P all [] id ⟨env,hp,nx,n⟩ K:=h
class TMap (P:Program) (t:TypeId) (td:outParam TypeDesc) (z:outParam D):Prop where
 h:∃kt et,P.underlying t=some (.map kt et)∧P.underlying kt=some td∧((P.info? et).bind (·.zero)).map ofV=some z
theorem qdD{all rest:List Oper}{dst:Option Tmp}{ty:TypeId}{pos:String}{af:Array Edge}{t:TypeId}(hd:qak n dst=true)(h:qb0 P all rest (id+32) ⟨qdU dst (.om id) env,(id,⟨0,true,[]⟩)::hp,nx,n⟩ K):
  qb0 P all ({dst:=dst,op:=.makeMap t none,type:=ty,pos:=pos,after:=af,guard:=none}::rest) id ⟨env,hp,nx,n⟩ K:=
 .inr ⟨rfl,.inr (.inr (.inl ⟨hd,h⟩))⟩
theorem qeq{all rest:List Oper}{dst:Option Tmp}{ty:TypeId}{pos:String}{af:Array Edge}{t:TypeId}{m x y:Operand}{b k':Nat}{rows:List (List D)}{td:TypeDesc}{z:D}[ht:TMap P t td z](ha:qac env m=.om b)
  (hb:lkH hp b=some ⟨k',true,rows⟩) {dk dv:D} (hk:qac env x=dk) (hv:qac env y=dv) (hok:qt1 td dk=true) (hval:(qf9 dv).isSome=true) (hf:findR td dk rows=some none) (hd:qak n dst=true)
  (h:qb0 P all rest (id+32) ⟨qdU dst .skip env,qj1 b ⟨0,true,rows++[[dk,dv]]⟩ hp,nx,n⟩ K):
  qb0 P all ({dst:=dst,op:=.mapUpdate t m x y,type:=ty,pos:=pos,after:=af,guard:=none}::rest) id ⟨env,hp,nx,n⟩ K:=by
 obtain⟨kt,et,h1,h2,_⟩:=ht.h
 subst hk hv
 exact .inr ⟨rfl,.inr (.inr (.inl ⟨b,rows,k',kt,et,td,h1,h2,ha,hb,hok,hval,hf,hd,h⟩))⟩
theorem qb1{s:Tmp}{t:TypeId}{m x:Operand}{b k':Nat}{fl:Bool}{rows:List (List D)}{td:TypeDesc}{z dk d:D}{r:Option D}[ht:TMap P t td z](ha:qac env m=.om b)
  (hb:lkH hp b=some ⟨k',fl,rows⟩) (hk:qac env x=dk) (hok:qt1 td dk=true) (hf:findR td dk rows=some r) (hr:r.getD z=d) (hd:qak n (some s)=true)
  (h:K .normal ⟨(s,d)::env,hp,nx,n⟩):qap P (.lookup t m x false) id (some s) ⟨env,hp,nx,n⟩ K:=by
 obtain⟨kt,et,h1,h2,h3⟩:=ht.h
 subst hk hr
 rw[qqR]
 refine⟨r.getD z,?_,hd,h⟩
 simp only[qiT,h1,ha,hb,Option.bind_some,h2,hok,if_true,hf]
 cases r with
 |none=>simpa using h3
 |some v=>rfl
end
section
variable {P:Program}{K:X→St→Prop}{env:Env}{hp:Hp}{nx n id:Nat}{s:Tmp}{x y z:Operand}
theorem qCw{k k' k2:IntKind}{a b c:Int}{ts:Array TypeId}(h1:qac env x=.int k a)(h2:qac env y=.int k' b)(h3:qac env z=.int k2 c)(hd:qak n (some s)=true)(hk:K .normal ⟨(s,.int k (min (min a b) c))::env,hp,nx,n⟩):qap P (.call {callee:=.builtin .min,args:= #[x,y,z],argTypes:=ts}) id (some s) ⟨env,hp,nx,n⟩ K:=by
 have h:=qsf (P:=P) (K:=K) (env:=env) (hp:=hp) (nx:=nx) (n:=n) (id:=id) (dst:=some s) (x:=x) (xs:=[y,z]) (ts:=ts)
 rw[show(#[x,y,z]:Array Operand)=(x::[y,z]).toArray from rfl,h]
 refine⟨.int k (min (min a b) c),?_,hd,hk⟩
 simp only[List.map_cons,List.map_nil,qhl,h1,h2,h3,qtZ,Option.bind_some,Option.some.injEq,D.int.injEq,true_and]
 split<;>split<;>omega
theorem qCx{k k' k2:IntKind}{a b c:Int}{ts:Array TypeId}(h1:qac env x=.int k a)(h2:qac env y=.int k' b)(h3:qac env z=.int k2 c)(hd:qak n (some s)=true)(hk:K .normal ⟨(s,.int k (max (max a b) c))::env,hp,nx,n⟩):qap P (.call {callee:=.builtin .max,args:= #[x,y,z],argTypes:=ts}) id (some s) ⟨env,hp,nx,n⟩ K:=by
 have h:=qsg (P:=P) (K:=K) (env:=env) (hp:=hp) (nx:=nx) (n:=n) (id:=id) (dst:=some s) (x:=x) (xs:=[y,z]) (ts:=ts)
 rw[show(#[x,y,z]:Array Operand)=(x::[y,z]).toArray from rfl,h]
 refine⟨.int k (max (max a b) c),?_,hd,hk⟩
 simp only[List.map_cons,List.map_nil,qhl,h1,h2,h3,qt0,Option.bind_some,Option.some.injEq,D.int.injEq,true_and]
 split<;>split<;>omega
end
section
variable {P:Program}{K:X→St→Prop}{env:Env}{hp:Hp}{nx n id:Nat}{s:Tmp}{x:Operand}{t t':TypeId}
theorem qwK{k0 k:IntKind}{a:Int}[h0:TInt P t k0][h1:TInt P t' .i64](h:qac env x=.int k a)(hd:qak n (some s)=true)(hr: -9223372036854775808≤a∧a≤9223372036854775807)(hk:K .normal ⟨(s,.int .i64 a)::env,hp,nx,n⟩):qap P (.convert t t' x) id (some s) ⟨env,hp,nx,n⟩ K:=by
 rw[qdX]
 refine⟨.int .i64 a,?_,hd,hk⟩
 rw[h]
 simp only[qnu,h1.h,h0.h,Option.isSome_some,if_true]
 rw[qkY hr]
end
abbrev qdm:=FuncId→List D→Option Outc
def stepR(st:St)(dst:Option Tmp)(d:D)(env:Env)(hp:Hp):Option (X×St):=
 if qak st.n dst=true then some (.normal,{st with env:=qdU dst d env,hp:=hp})else none
def qq1(call:qdm)(fd:D)(args:List D)(id:Nat)(dst:Option Tmp)(st:St):Option (X×St):=
 match fd with
 |.clo (.func f) xs ys=>
  match qbX (lkH st.hp) 64 (xs++args++ys)with
  |some args'=>
   match call f args' with
   |some (.ret r)=>if(qbV (xs++args++ys)=true∨qbY r=true)∧qqB r≤32 then stepR st dst (qaO id r).1 st.env ((qaO id r).2++st.hp)else none
   |some (.pan d)=>if qbV (xs++args++ys)=true∨qmc d=true then some (.pan d,st)else none
   |none=>none
  |none=>none
 |_=>none
def qq2(P:Program)(call:qdm)(o:Op)(id:Nat)(dst:Option Tmp)(st:St):Option (X×St):=
 match o with
 |.store t a x=>
  match qjA P (lkH st.hp) t (qac st.env a) (qac st.env x)with
  |some (b,blk)=>stepR st dst .skip st.env (qj1 b blk st.hp)
  |none=>none
 |.call {callee:=.value f,args:=args,..}=>qq1 call (qac st.env f) (args.toList.map (qac st.env)) id dst st
 |.call {callee:=.builtin .append,args:=args,argTypes:=ts}=>
  match args.toList,ts.toList with
  |[s,x],[t,t']=>
   if t=t' then
    match qcN P (lkH st.hp) t (qac st.env s) (qac st.env x)with
    |some (none,blk)=>stepR st dst (.os id 0 blk.rows.length) st.env ((id,blk)::st.hp)
    |some (some b,blk)=>stepR st dst (.os b 0 blk.rows.length) (qfZ b st.env) ((b,blk)::qg9 b st.hp)
    |none=>none
   else none
  |_,_=>none
 |.build t parts=>
  match qjz P t (parts.toList.map fun(i,x)=>(i,qac st.env x))with
  |some d=>stepR st dst d st.env st.hp
  |none=>none
 |o=>
  match op0 P (qac st.env) (lkH st.hp) o with
  |some d=>stepR st dst d st.env st.hp
  |none=>
   match op1 P (qac st.env) o with
   |some (ptr,blk)=>stepR st dst (qy3 id ptr blk) st.env ((id,blk)::st.hp)
   |none=>
    match qmb P (qac st.env) (lkH st.hp) o with
    |some [b]=>stepR st dst (.bool b) st.env st.hp
    |_=>none
def qid(P:Program)(call:qdm)(all:List Oper):List Oper→Nat→St→Option (X×St)
 |[],id,st=>some (.normal,{st with nx:=id})
 |o::rest,id,st=>
  match(match o.guard with
   |none=>some true
   |some (j,want)=>
    match qdV all st.env j with
    |some (some b)=>some (b==want)
    |some none=>some false
    |none=>none)with
  |some true=>
   match qq2 P call o.op id o.dst st with
   |some (.normal,st')=>qid P call all rest (id+32) st'
   |r=>r
  |some false=>if qak st.n o.dst=true then qid P call all rest (id+32) (st.put o.dst .skip)else none
  |none=>none
abbrev qeY:=FuncId→List D→Blk→Option (D×Blk)
def qnY:List D→Option Nat
 |[]=>none
 |.os b _ _::_=>some b
 |_::ds=>qnY ds
def qnZ(callM:qeY)(o:Op)(dst:Option Tmp)(st:St):Option (X×St):=
 match o with
 |.call {callee:=.value f,args:=args,..}=>
  match qac st.env f with
  |.clo (.func g) xs ys=>
   match qnY (xs++args.toList.map (qac st.env)++ys)with
   |some b=>
    match lkH st.hp b with
    |some blk=>
     match inL b (xs++args.toList.map (qac st.env)++ys)with
     |some args'=>
      match callM g args' blk with
      |some (r,blk')=>if qey blk.rows=true then stepR st dst (qEl b r) st.env (qj1 b blk' st.hp)else none
      |none=>none
     |none=>none
    |none=>none
   |none=>none
  |_=>none
 |_=>none
def qhv(P:Program)(call:qdm)(callM:qeY)(all:List Oper):List Oper→Nat→St→Option (X×St)
 |[],id,st=>some (.normal,{st with nx:=id})
 |o::rest,id,st=>
  match(match o.guard with
   |none=>some true
   |some (j,want)=>
    match qdV all st.env j with
    |some (some b)=>some (b==want)
    |some none=>some false
    |none=>none)with
  |some true=>
   match qq2 P call o.op id o.dst st with
   |some (.normal,st')=>qhv P call callM all rest (id+32) st'
   |some r=>some r
   |none=>
    if o.guard.isNone=true then
     match qnZ callM o.op o.dst st with
     |some (.normal,st')=>qhv P call callM all rest (id+32) st'
     |_=>none
    else none
  |some false=>if qak st.n o.dst=true then qhv P call callM all rest (id+32) (st.put o.dst .skip)else none
  |none=>none
def qwL(l:List Oper):Nat→Option Nat
 |0=>bif qgh l 0 then some 0 else none
 |m+1=>bif qgh l (m+1)then some (m+1)else qwL l m
def qKG(ms:List Nat)(k:Nat):List Nat:=(List.range k).filter fun j=> !(ms.getD k 0).testBit j
def qFZ(l:List Oper)(m:Nat):List (List Nat):=(List.range (l.length-m)).map fun i=>qKG (qnE l []) (m+i)
def qwM(l:List Oper):Nat→Option Nat
 |0=>bif qeW l 0 (qFZ l 0)then some 0 else none
 |m+1=>bif qeW l (m+1) (qFZ l (m+1))then some (m+1)else qwM l m
def eq1:D→D→Bool
 |.int k a,.int k' b=>decide (k=k')&&decide (a=b)
 |.bool a,.bool b=>a==b
 |.str a,.str b=>decide (a=b)
 |.os b o l,.os b' o' l'=>b==b'&&o==o'&&l==l'
 |.op b o l,.op b' o' l'=>b==b'&&o==o'&&l==l'
 |.nilsl,.nilsl=>true
 |_,_=>false
def qHe(P:Program)(call:qdm)(o:Op)(st:St):Option D:=
 match o with
 |.store .. =>none
 |.call {callee:=.value f,args:=args,..}=>
  match qac st.env f with
  |.clo (.func g) xs ys=>
   match qbX (lkH st.hp) 64 (xs++args.toList.map (qac st.env)++ys)with
   |some args'=>
    match call g args' with
    |some (.ret r)=>if qa0 r=true then some r else none
    |_=>none
   |none=>none
  |_=>none
 |.call {callee:=.builtin .append,..}=>none
 |.build .. =>none
 |o=>op0 P (qac st.env) (lkH st.hp) o
def qsp(P:Program)(call:qdm)(all:List Oper)(st:St)(j:Nat):Bool:=
 match all[j]? with
 |some o=>
  match o.dst,qHe P call o.op st with
  |some s,some d=>qak st.n (some s)&&eq1 (lkE st.env s) d
  |_,_=>false
 |none=>false
def qk9(P:Program)(call:qdm)(all:List Oper)(m:Nat):List Oper→List (List Nat)→Nat→St→Option (X×St)
 |[],[],id,st=>some (.normal,{st with nx:=id})
 |o::rest,z::zs,id,st=>
  match qq2 P call o.op id o.dst st with
  |some (.normal,st')=>if z.all (qsp P call all st')=true then qk9 P call all m rest zs (id+32+32*m) st' else none
  |_=>none
 |_,_,_,_=>none
def qwN(P:Program)(call:qdm)(l:List Oper)(st:St):Option (X×St):=
 if(st.hp.all fun x=>decide (x.1<st.nx))=true then
  match qwL l (qqC l).length with
  |some m=>
   if qgh l m=true then
    match qid P call l (l.take m) st.nx st with
    |some (.normal,st')=>qid P call l (l.drop m) st'.nx st'
    |_=>none
   else none
  |none=>
   match qwM l (qqC l).length with
   |some m=>
    if qeW l m (qFZ l m)=true then
     match qid P call l (l.take m) st.nx st with
     |some (.normal,st')=>qk9 P call l m (l.drop m) (qFZ l m) st'.nx st'
     |_=>none
    else none
   |none=>none
 else none
def qD1:List Nat→Nat→Bool
 |[],_=>false
 |x::l,n=>bif x==n then true else qD1 l n
def qmX:List Nat→Env→Env
 |_,[]=>[]
 |seen,(s,d)::e=>bif qD1 seen s then qmX seen e else(s,d)::qmX (s::seen) e
def qn0(st:St):St:={st with env:=qmX [] st.env}
def qD2:Nat→(St→Option (X×St))→St→Option (X×St)
 |0,_,_=>none
 |n+1,f,st=>
  match f (qn0 st)with
  |some (.normal,st')=>qD2 n f st'
  |r=>r
def qmh(P:Program)(call:qdm)(callM:qeY)(fuel:Nat):Code→St→Option (X×St)
 |.skip,st=>some (.normal,st)
 |.label _,st=>some (.normal,st)
 |.region _ ops false,st=>qhv P call callM ops.toList ops.toList st.nx st
 |.region _ ops true,st=>qwN P call ops.toList st
 |.seq a b,st=>
  match qmh P call callM fuel a st with
  |some (.normal,st')=>qmh P call callM fuel b st'
  |r=>r
 |.cond c a b,st=>
  match qac st.env c with
  |.bool true=>qmh P call callM fuel a st
  |.bool false=>qmh P call callM fuel b st
  |_=>none
 |.block id c,st=>
  match qmh P call callM fuel c st with
  |some (.exit id',st')=>if id'=id then some (.normal,st')else some (.exit id',st')
  |r=>r
 |.loop c,st=>qD2 fuel (qmh P call callM fuel c) st
 |.exit id,st=>some (.exit id,st)
 |.ret,st=>some (.ret,st)
 |.scope c,st=>qmh P call callM fuel c st
 |_,_=>none
def qKH(hp:Nat→Option Blk)(used:List Nat):D→Src
 |.nilsl=>.nil
 |.os b off len=>
  match hp b with
  |some blk=>if off=0∧len=blk.rows.length∧qD1 used b=false then .blk b else .pure
  |none=>.pure
 |_=>.pure
def qCy(hp:Nat→Option Blk):List Nat→List D→List Src
 |_,[]=>[]
 |used,d::ds=>
  match qKH hp used d with
  |.blk b=>.blk b::qCy hp (b::used) ds
  |s=>s::qCy hp used ds
def qEL(hp hpX:Nat→Option Blk):List Src→List D→Option (List D)
 |[],[]=>some []
 |s::ss,d::ds=>
  match(match s with
   |.pure=>pur hpX 64 d
   |.nil=>(match d with|.nilsl=>some (.fr 0 [])|_=>none)
   |.blk b=>
    match hp b with
    |some blk=>(match d with
     |.os b' 0 len=>if b'=b∧len=blk.rows.length then
       (if blk.flat=true then some (.fr blk.k blk.rows)else match qqJ hpX 64 blk.rows with
        |some rows=>if rows.length=len then some (.fr blk.k rows)else none
        |none=>none)
      else none
     |_=>none)
    |none=>none)with
  |some r=>(qEL hp hpX ss ds).map (r:: ·)
  |none=>none
 |_,_=>none
def qmY(P:Program)(st:St):List ResultVar→Option (List D)
 |[]=>some []
 |rv::l=>
  match qb7 P st rv with
  |some d=>(qmY P st l).map (d:: ·)
  |none=>none
def qfM:List D→List D→List D
 |[],_=>[]
 |.agg cs::ds,rc=>.agg (rc.take cs.length)::qfM ds (rc.drop cs.length)
 |_::ds,r::rc=>r::qfM ds rc
 |_::_,[]=>[]
def qF0(P:Program)(rv:List ResultVar)(st:St):Option D:=
 match qmY P st rv with
 |some ds=>
  let fc:=ds.flatMap qai
  let ss:=qCy (lkH st.hp) [] fc
  match qEL (lkH st.hp) (qbd (qbC ss) (lkH st.hp)) ss fc with
  |some rc=>
   let rs:=qfM ds rc
   if(qbC ss).Nodup∧(rs.length=1→rs.all qjE=true)∧rc.all qcj=true then some (qj2 rs)else none
  |none=>none
 |none=>none
def qF1(P:Program)(rv:List ResultVar)(st:St):Option (D×Blk):=
 match qmY P st rv,lkH st.hp 0 with
 |some ds,some blk=>if qey blk.rows=true∧qo1 (qj2 ds)=true then some (qj2 ds,blk)else none
 |_,_=>none
def qHf(P:Program)(fuel:Nat)(call:qdm)(callM:qeY):qdm:=fun f ds=>
  match P.funcs[f]? with
  |some fn=>
   match fn.body with
   |some c=>
    if(fn.name== "runtime.NumGoroutine")=false∧ds.length≤fn.ntmps then
     match qmh P call callM fuel c ⟨qab 0 ds,[],0,fn.ntmps⟩with
     |some (.normal,st)=>(qF0 P fn.results.toList st).map .ret
     |some (.ret,st)=>(qF0 P fn.results.toList st).map .ret
     |some (.pan d,_)=>some (.pan d)
     |_=>none
    else none
   |none=>none
  |none=>none
def qCz(P:Program)(fuel:Nat)(call:qdm)(callM:qeY):qeY:=fun f ds blk=>
  match P.funcs[f]? with
  |some fn=>
   match fn.body with
   |some c=>
    if(fn.name== "runtime.NumGoroutine")=false∧ds.length≤fn.ntmps∧qdk c=true then
     match qmh P call callM fuel c ⟨qab 0 ds,[(0,blk)],1,fn.ntmps⟩with
     |some (.normal,st)=>qF1 P fn.results.toList st
     |some (.ret,st)=>qF1 P fn.results.toList st
     |_=>none
    else none
   |none=>none
  |none=>none
def qBg(P:Program)(fuel:Nat):Nat→qdm×qeY
 |0=>(fun _ _=>none,fun _ _ _=>none)
 |k+1=>(qHf P fuel (qBg P fuel k).1 (qBg P fuel k).2,qCz P fuel (qBg P fuel k).1 (qBg P fuel k).2)
section
variable {P:Program}{call:qdm}{callM:qeY}
theorem qei{st st':St}{dst:Option Tmp}{d:D}{env:Env}{hp:Hp}{x:X}{K:X→St→Prop}(h:stepR st dst d env hp=some (x,st'))(hK:K x st'):qcJ st dst d env hp K:=by
 unfold stepR at h
 split at h
 ·rename_i hd
  simp only[Option.some.injEq,Prod.mk.injEq]at h
  obtain⟨rfl,rfl⟩:=h
  exact⟨hd,hK⟩
 ·cases h
theorem quP(hcall:∀f ds out,call f ds=some out→Contract P f ds out){fd:D}{args:List D}{id:Nat}{dst:Option Tmp}{st st':St}{x:X}{K:X→St→Prop}
  (h:qq1 call fd args id dst st=some (x,st')) (hK:K x st'):qf1 P fd args id dst st K:=by
 unfold qq1 at h
 split at h
 ·rename_i f xs ys
  split at h
  ·rename_i args' hp
   split at h
   ·rename_i r hc
    split at h
    ·rename_i hr
     exact⟨args',.ret r,hp,hcall _ _ _ hc,hr.1,hr.2,qei h hK⟩
    ·cases h
   ·rename_i d hc
    split at h
    ·rename_i hr
     simp only[Option.some.injEq,Prod.mk.injEq]at h
     obtain⟨rfl,rfl⟩:=h
     exact⟨args',.pan d,hp,hcall _ _ _ hc,hr,hK⟩
    ·cases h
   ·cases h
  ·cases h
 ·cases h
theorem qie(hcall:∀f ds out,call f ds=some out→Contract P f ds out){o:Op}{id:Nat}{dst:Option Tmp}{st st':St}{x:X}{K:X→St→Prop}
  (h:qq2 P call o id dst st=some (x,st')) (hK:K x st'):qap P o id dst st K:=by
 unfold qq2 at h
 unfold qap
 split at h
 ·split at h
  ·rename_i h1
   simp only[h1]
   exact qei h hK
  ·cases h
 ·exact quP hcall h hK
 ·split at h
  ·rename_i heq1 heq2
   simp only[heq1,heq2]
   split at h
   ·rename_i ht
    rw[if_pos ht]
    split at h
    ·rename_i h1
     simp only[h1]
     exact qei h hK
    ·rename_i h1
     simp only[h1]
     exact qei h hK
    ·cases h
   ·cases h
  ·cases h
 ·split at h
  ·rename_i h1
   simp only[h1]
   exact qei h hK
  ·cases h
 ·split at h
  ·rename_i h0
   simp only[h0]
   exact qei h hK
  ·rename_i h0
   simp only[h0]
   split at h
   ·rename_i h1
    simp only[h1]
    exact qei h hK
   ·rename_i h1
    split at h
    ·rename_i b h2
     simp only[h1,h2]
     intro b' hb
     simp only[List.mem_singleton]at hb
     subst hb
     exact qei h hK
    ·cases h
theorem qgr(hcall:∀f ds out,call f ds=some out→Contract P f ds out){all:List Oper}:∀(l:List Oper) (id:Nat) (st st':St) (x:X) (K:X→St→Prop),
  qid P call all l id st=some (x,st')→K x st'→qaP P all l id st K
 |[],id,st,st',x,K,h,hK=>by
  simp only[qid,Option.some.injEq,Prod.mk.injEq]at h
  obtain⟨rfl,rfl⟩:=h
  exact hK
 |o::rest,id,st,st',x,K,h,hK=>by
  have hrun:(match qq2 P call o.op id o.dst st with
   |some (.normal,st')=>qid P call all rest (id+32) st'
   |r=>r)=some (x,st')→qap P o.op id o.dst st (fun x st'=>match x with
   |.normal=>qaP P all rest (id+32) st' K
   |x=>K x st'):=fun h=>by
   split at h
   ·rename_i st1 h1
    exact qie hcall h1 (K:=fun x st'=>match x with
     |.normal=>qaP P all rest (id+32) st' K
     |x=>K x st') (qgr hcall rest (id+32) st1 st' x K h hK)
   ·rename_i hn
    cases hr:qq2 P call o.op id o.dst st with
    |none=>rw[hr]at h;cases h
    |some r=>
     rw[hr]at h
     injection h with h
     subst h
     refine qie hcall hr ?_
     cases x with
     |normal=>exact(hn _ hr).elim
     |_=>exact hK
  unfold qid at h
  unfold qaP
  simp only
  split at h
  ·rename_i hg
   split at hg
   ·rename_i hgn
    simp only[hgn]
    exact hrun h
   ·rename_i j want hgs
    simp only[hgs]
    split at hg
    ·rename_i b hgd
     simp only[hgd]
     simp only[Option.some.injEq,beq_iff_eq]at hg
     subst hg
     exact⟨fun _=>hrun h,fun hb=>by cases b<;>cases hb⟩
    ·cases hg
    ·cases hg
  ·rename_i hg
   split at h
   ·rename_i hd
    have hrest:=qgr hcall rest (id+32) _ st' x K h hK
    split at hg
    ·cases hg
    ·rename_i j want hgs
     simp only[hgs]
     split at hg
     ·rename_i b hgd
      simp only[hgd]
      simp only[Option.some.injEq,beq_eq_false_iff_ne,ne_eq]at hg
      exact⟨fun hb=>(hg hb).elim,fun _=>⟨hd,hrest⟩⟩
     ·rename_i hgd
      simp only[hgd]
      exact⟨hd,hrest⟩
     ·cases hg
   ·cases h
  ·cases h
theorem qla:∀{ds:List D} {b:Nat},qnY ds=some b→qo0 b ds=true
 |[],b,h=>by cases h
 |d::ds,b,h=>by
  cases d with
  |os b' o l=>
   simp only[qnY,Option.some.injEq]at h
   subst h
   simp[qo0]
  |_=>exact qla (ds:=ds) h
theorem qq3(hcallM:∀f ds blk r blk',callM f ds blk=some (r,blk')→qcT P f ds blk r blk'){o:Op}{dst:Option Tmp}{st st':St}{x:X}{K:X→St→Prop}
  (h:qnZ callM o dst st=some (x,st')) (hK:K x st'):qd4 P o dst st K:=by
 unfold qnZ at h
 unfold qd4
 split at h
 ·split at h
  ·rename_i g xs ys hfd
   simp only[hfd]
   split at h
   ·rename_i b hb
    split at h
    ·rename_i blk hl
     split at h
     ·rename_i args' hi
      split at h
      ·rename_i r blk' hc
       split at h
       ·rename_i hs
        refine⟨b,blk,args',r,blk',hl,hs,hi,qla hb,hcallM _ _ _ _ _ hc,qei h hK⟩
       ·cases h
      ·cases h
     ·cases h
    ·cases h
   ·cases h
  ·cases h
 ·cases h
theorem qgO(hcall:∀f ds out,call f ds=some out→Contract P f ds out)(hcallM:∀f ds blk r blk',callM f ds blk=some (r,blk')→qcT P f ds blk r blk'){all:List Oper}:∀(l:List Oper) (id:Nat) (st st':St) (x:X) (K:X→St→Prop),
  qhv P call callM all l id st=some (x,st')→K x st'→qb0 P all l id st K
 |[],id,st,st',x,K,h,hK=>by
  simp only[qhv,Option.some.injEq,Prod.mk.injEq]at h
  obtain⟨rfl,rfl⟩:=h
  exact hK
 |o::rest,id,st,st',x,K,h,hK=>by
  unfold qhv at h
  unfold qb0
  simp only
  split at h
  ·rename_i hg
   split at h
   ·rename_i st1 h1
    have h2:qap P o.op id o.dst st (fun x st'=>match x with
     |.normal=>qb0 P all rest (id+32) st' K
     |x=>K x st'):=qie hcall h1 (K:=fun x st'=>match x with
     |.normal=>qb0 P all rest (id+32) st' K
     |x=>K x st') (qgO hcall hcallM rest (id+32) st1 st' x K h hK)
    refine .inl ?_
    split at hg
    ·rename_i hgn;simp only[hgn];exact h2
    ·rename_i j want hgs
     simp only[hgs]
     split at hg
     ·rename_i b hgd
      simp only[hgd]
      simp only[Option.some.injEq,beq_iff_eq]at hg
      subst hg
      exact⟨fun _=>h2,fun hb=>by cases b<;>cases hb⟩
     ·cases hg
     ·cases hg
   ·rename_i r hn hr
    injection h with h
    subst h
    have h2:qap P o.op id o.dst st (fun x st'=>match x with
     |.normal=>qb0 P all rest (id+32) st' K
     |x=>K x st'):=qie hcall hr (by
      cases x with
      |normal=>exact(hn _ rfl).elim
      |_=>exact hK)
    refine .inl ?_
    split at hg
    ·rename_i hgn;simp only[hgn];exact h2
    ·rename_i j want hgs
     simp only[hgs]
     split at hg
     ·rename_i b hgd
      simp only[hgd]
      simp only[Option.some.injEq,beq_iff_eq]at hg
      subst hg
      exact⟨fun _=>h2,fun hb=>by cases b<;>cases hb⟩
     ·cases hg
     ·cases hg
   ·split at h
    ·rename_i hgn
     split at h
     ·rename_i st1 h1
      exact .inr ⟨Option.isNone_iff_eq_none.1 hgn,.inl (qq3 hcallM h1 (K:=fun x st'=>match x with
       |.normal=>qb0 P all rest (id+32) st' K
       |x=>K x st') (qgO hcall hcallM rest (id+32) st1 st' x K h hK))⟩
     ·cases h
    ·cases h
  ·rename_i hg
   refine .inl ?_
   split at h
   ·rename_i hd
    have hrest:=qgO hcall hcallM rest (id+32) _ st' x K h hK
    split at hg
    ·cases hg
    ·rename_i j want hgs
     simp only[hgs]
     split at hg
     ·rename_i b hgd
      simp only[hgd]
      simp only[Option.some.injEq,beq_eq_false_iff_ne,ne_eq]at hg
      exact⟨fun hb=>(hg hb).elim,fun _=>⟨hd,hrest⟩⟩
     ·rename_i hgd
      simp only[hgd]
      exact⟨hd,hrest⟩
     ·cases hg
   ·cases h
  ·cases h
theorem qEM{a b:D}(h:eq1 a b=true):a=b:=by
 cases a<;>cases b<;>simp only[eq1,Bool.and_eq_true,decide_eq_true_eq,beq_iff_eq]at h<;>first|(cases h;done)|skip
 ·obtain⟨rfl,rfl⟩:=h;rfl
 ·subst h;rfl
 ·subst h;rfl
 ·rfl
 ·obtain⟨⟨rfl,rfl⟩,rfl⟩:=h;rfl
 ·obtain⟨⟨rfl,rfl⟩,rfl⟩:=h;rfl
theorem qn1{d:D}(h:qa0 d=true):qbY d=true:=by
 cases d<;>first|(cases h;done)|rfl
theorem qq4{d:D}{id:Nat}(h:qa0 d=true):qaO id d=(d,[]):=by
 cases d<;>first|(cases h;done)|rfl
theorem qwO{d:D}(h:qa0 d=true):qqB d≤32:=by
 cases d<;>first|(cases h;done)|exact zL rfl
theorem qCA(hcall:∀f ds out,call f ds=some out→Contract P f ds out){o:Op}{st:St}{d:D}{s:Tmp}(h:qHe P call o st=some d)(hd:qak st.n (some s)=true){K:X→St→Prop}(hK:K .normal {st with env:=(s,d)::st.env})(id:Nat):
  qap P o id (some s) st K:=by
 unfold qHe at h
 unfold qap
 split at h
 ·cases h
 ·split at h
  ·rename_i g xs ys hf
   split at h
   ·rename_i args' hp
    split at h
    ·rename_i r hc
     split at h
     ·rename_i hr
      injection h with h
      subst h
      show qf1 P _ _ id _ st K
      rw[hf]
      refine⟨args',.ret r,hp,hcall _ _ _ hc,.inr (qn1 hr),qwO hr,hd,?_⟩
      rw[qq4 hr]
      exact hK
     ·cases h
    ·cases h
   ·cases h
  ·cases h
 ·cases h
 ·cases h
 ·rename_i h1 h2 h3 h4
  split
  ·rename_i t a x;exact(h1 t a x rfl).elim
  ·rename_i f args ts;exact(h2 f args ts rfl).elim
  ·rename_i args ts;exact(h3 args ts rfl).elim
  ·rename_i t parts;exact(h4 t parts rfl).elim
  ·simp only[h]
   exact⟨hd,hK⟩
theorem qwP(hcall:∀f ds out,call f ds=some out→Contract P f ds out){all:List Oper}{st:St}{j:Nat}(h:qsp P call all st j=true):qt6 P all st j:=by
 unfold qsp at h
 unfold qt6
 split at h
 ·rename_i o ho
  rw[ho]
  simp only
  split at h
  ·rename_i s d hs hv
   simp only[Bool.and_eq_true]at h
   rw[hs]
   refine fun id=>qCA hcall hv h.1 ?_ id
   refine⟨rfl,rfl,rfl,fun t=>?_⟩
   show(if t=s then d else lkE st.env t)=_
   split
   ·rename_i ht;rw[ht,qEM h.2]
   ·rfl
  ·cases h
 ·cases h
theorem qmZ(hcall:∀f ds out,call f ds=some out→Contract P f ds out){all:List Oper}{m:Nat}:∀(l:List Oper) (zs:List (List Nat)) (id:Nat) (st st':St) (x:X) (K:X→St→Prop),
  qk9 P call all m l zs id st=some (x,st')→K x st'→qdw P all m l zs id st K
 |[],[],id,st,st',x,K,h,hK=>by
  simp only[qk9,Option.some.injEq,Prod.mk.injEq]at h
  obtain⟨rfl,rfl⟩:=h
  exact hK
 |[],_::_,_,_,_,_,_,h,_=>by cases h
 |_::_,[],_,_,_,_,_,h,_=>by cases h
 |o::rest,z::zs,id,st,st',x,K,h,hK=>by
  simp only[qk9]at h
  simp only[qdw]
  split at h
  ·rename_i st1 h1
   split at h
   ·rename_i hz
    refine qie hcall h1 ⟨?_,qmZ hcall rest zs _ _ _ _ K h hK⟩
    have key:∀z:List Nat,z.all (qsp P call all st1)=true→qbP P all st1 z:=by
     intro z
     induction z with
     |nil=>intro _;trivial
     |cons j z ih=>
      intro hz
      simp only[List.all_cons,Bool.and_eq_true]at hz
      exact⟨qwP hcall hz.1,ih hz.2⟩
    exact key z hz
   ·cases h
  ·cases h
theorem qjb:∀{env:Env} {seen:List Nat} {s:Nat},qD1 seen s=false→lkE (qmX seen env) s=lkE env s
 |[],_,_,_=>rfl
 |(t,d)::env,seen,s,h=>by
  simp only[qmX,lkE]
  cases hs:qD1 seen t with
  |true=>
   simp only[cond_true]
   rw[qjb h,if_neg]
   rintro rfl
   rw[h]at hs;cases hs
  |false=>
   simp only[cond_false,lkE]
   by_cases e:s=t
   ·rw[if_pos e,if_pos e]
   ·rw[if_neg e,if_neg e]
    refine qjb ?_
    have:(t==s)=false:=by simpa using Ne.symm e
    simp only[qD1,this,cond_false,h]
theorem qm0(st:St){w0:World}{S:Frm}{a:Act}{w:World}(hi:qcb w0 S st.nx st a w):qcb w0 S (qn0 st).nx (qn0 st) a w:=by
 obtain⟨pu,ow,m1,m2,m3,m4,m5,m6,m7⟩:=hi
 exact⟨pu,ow,m1,fun s=>by
  show Rep w pu ow _ (lkE (qmX [] st.env) s)
  rw[qjb rfl]
  exact m2 s,m3,m4,m5,m6,m7⟩
theorem qej(st:St):qcr st (qn0 st):=fun _ _ _ _ _ hi=>qm0 st hi
theorem qhd(st:St):qsk st (qn0 st):=fun _ _ _ _ _ hi=>qm0 st hi
theorem qjc{E:St→St→Prop}(hE:∀st,E st (qn0 st))(hcall:∀f ds out,call f ds=some out→Contract P f ds out)(hcallM:∀f ds blk r blk',callM f ds blk=some (r,blk')→qcT P f ds blk r blk'){fuel:Nat}:∀(c:Code) (st st':St) (x:X) (K:X→St→Prop),qmh P call callM fuel c st=some (x,st')→K x st'→evG E P c K st:=by
 intro c
 induction c with
 |skip=>intro st st' x K h hK;simp only[qmh,Option.some.injEq,Prod.mk.injEq]at h;obtain⟨rfl,rfl⟩:=h;exact hK
 |label l=>intro st st' x K h hK;simp only[qmh,Option.some.injEq,Prod.mk.injEq]at h;obtain⟨rfl,rfl⟩:=h;exact hK
 |region id ops draw=>
  intro st st' x K h hK
  cases draw with
  |false=>exact .inr (.inl (qgO hcall hcallM _ _ _ _ _ _ h hK))
  |true=>
   unfold qmh qwN at h
   split at h
   ·rename_i hdom
    split at h
    ·rename_i m hm
     split at h
     ·rename_i hc
      split at h
      ·rename_i st1 h1
       exact .inl ⟨m,hc,hdom,qgr hcall _ _ _ _ _ _ h1 (qgr hcall _ _ _ _ _ _ h hK)⟩
      ·cases h
     ·cases h
    ·split at h
     ·rename_i m hm
      split at h
      ·rename_i hc
       split at h
       ·rename_i st1 h1
        exact .inr (.inl ⟨m,_,hc,hdom,qgr hcall _ _ _ _ _ _ h1 (qmZ hcall _ _ _ _ _ _ _ h hK)⟩)
       ·cases h
      ·cases h
     ·cases h
   ·cases h
 |seq a b iha ihb=>
  intro st st' x K h hK
  unfold qmh at h
  split at h
  ·rename_i st1 h1
   exact .inl (iha st st1 .normal (qo6 (evG E P b K) K) h1 (ihb _ _ _ _ h hK))
  ·rename_i hn
   refine .inl (iha st st' x (qo6 (evG E P b K) K) h ?_)
   cases x with
   |normal=>exact(hn _ h).elim
   |_=>exact hK
 |cond c a b iha ihb=>
  intro st st' x K h hK
  unfold qmh at h
  split at h
  ·rename_i hc;exact⟨true,hc,(fun _=>iha _ _ _ _ h hK),(fun hf=>by cases hf)⟩
  ·rename_i hc;exact⟨false,hc,(fun hf=>by cases hf),fun _=>ihb _ _ _ _ h hK⟩
  ·cases h
 |block id c ih=>
  intro st st' x K h hK
  unfold qmh at h
  split at h
  ·rename_i id' st1 h1
   split at h
   ·rename_i he
    simp only[Option.some.injEq,Prod.mk.injEq]at h
    obtain⟨rfl,rfl⟩:=h
    refine ih st st1 (.exit id') (qea id K) h1 ?_
    simp only[qea,if_pos he]
    exact hK
   ·rename_i he
    simp only[Option.some.injEq,Prod.mk.injEq]at h
    obtain⟨rfl,rfl⟩:=h
    refine ih st st1 (.exit id') (qea id K) h1 ?_
    simp only[qea,if_neg he]
    exact hK
  ·rename_i hn
   refine ih st st' x (qea id K) h ?_
   cases x with
   |exit i=>exact(hn _ _ h).elim
   |_=>exact hK
 |loop c ih=>
  intro st st' x K h hK
  have hx:∀(n:Nat) (st:St),qD2 n (qmh P call callM fuel c) st=some (x,st')→x≠ .normal:=by
   intro n
   induction n with
   |zero=>intro st h;cases h
   |succ n ihn=>
    intro st h
    unfold qD2 at h
    split at h
    ·exact ihn _ h
    ·rename_i hn
     rintro rfl
     exact hn _ h
  refine⟨fun n s=>∃s0,s=qn0 s0∧qD2 n (qmh P call callM fuel c) s0=some (x,st'),fuel,⟨qn0 st,hE st,st,rfl,h⟩,?_⟩
  rintro n s ⟨s0,rfl,hs⟩
  cases n with
  |zero=>cases hs
  |succ n=>
   unfold qD2 at hs
   split at hs
   ·rename_i st1 h1
    refine ih _ _ _ _ h1 ?_
    exact⟨n,qn0 st1,by omega,hE st1,st1,rfl,hs⟩
   ·rename_i hn
    refine ih _ _ _ _ hs ?_
    cases x with
    |normal=>exact(hn _ hs).elim
    |_=>exact hK
 |exit id=>intro st st' x K h hK;simp only[qmh,Option.some.injEq,Prod.mk.injEq]at h;obtain⟨rfl,rfl⟩:=h;exact hK
 |ret=>intro st st' x K h hK;simp only[qmh,Option.some.injEq,Prod.mk.injEq]at h;obtain⟨rfl,rfl⟩:=h;exact hK
 |scope c ih=>intro st st' x K h hK;exact ih _ _ _ _ h hK
 |_=>intro st st' x K h hK;cases h
theorem qjd{st:St}:∀{rv:List ResultVar} {ds:List D},qmY P st rv=some ds→rv.map (qb7 P st)=ds.map some
 |[],ds,h=>by simp only[qmY,Option.some.injEq]at h;subst h;rfl
 |rv::l,ds,h=>by
  unfold qmY at h
  split at h
  ·rename_i d hd
   obtain⟨ds',h1,rfl⟩:=Option.map_eq_some_iff.1 h
   simp only[List.map_cons,hd,qjd h1]
  ·cases h
theorem qwQ{hp hpX:Nat→Option Blk}:∀{ss:List Src} {ds rs:List D},qEL hp hpX ss ds=some rs→qoH hp hpX ss ds rs
 |[],[],rs,h=>by simp only[qEL,Option.some.injEq]at h;subst h;trivial
 |[],_::_,_,h=>by cases h
 |_::_,[],_,h=>by cases h
 |s::ss,d::ds,rs,h=>by
  unfold qEL at h
  split at h
  ·rename_i r hr
   obtain⟨rs',h1,rfl⟩:=Option.map_eq_some_iff.1 h
   refine⟨?_,qwQ h1⟩
   cases s with
   |pure=>exact hr
   |nil=>
    simp only at hr
    split at hr
    ·injection hr with hr;exact⟨rfl,0,hr.symm⟩
    ·cases hr
   |blk b=>
    simp only at hr
    split at hr
    ·rename_i blk hb
     split at hr
     ·split at hr
      ·rename_i hl
       obtain⟨rfl,rfl⟩:=hl
       split at hr
       ·rename_i hf
        injection hr with hr
        exact⟨blk,blk.rows,rfl,hb,hr.symm,by rw[if_pos hf]⟩
       ·rename_i hf
        split at hr
        ·rename_i rows hp'
         split at hr
         ·rename_i hlen
          injection hr with hr
          exact⟨blk,rows,by rw[hlen],hb,hr.symm,by rw[if_neg hf];exact hp'⟩
         ·cases hr
        ·cases hr
      ·cases hr
     ·cases hr
    ·cases hr
  ·cases h
theorem qsq{hp hpX:Nat→Option Blk}:∀{ss:List Src} {ds rs:List D},qoH hp hpX ss ds rs→rs.length=ds.length
 |[],[],[],_=>rfl
 |_::_,_::_,_::_,h=>by simp[qsq h.2]
 |[],_::_,_,h=>h.elim
 |[],[],_::_,h=>h.elim
 |_::_,[],_,h=>by simp[qoH]at h
 |_::_,_::_,[],h=>by simp[qoH]at h
theorem qje:∀{ds rc:List D},rc.length=(ds.flatMap qai).length→rc.all qcj=true→(qfM ds rc).flatMap qai=rc∧ds.map (fun d=>(qcj d,(qai d).length))=(qfM ds rc).map (fun d=>(qcj d,(qai d).length))
 |[],rc,h,_=>by simp at h;subst h;exact⟨rfl,rfl⟩
 |d::ds,rc,h,ha=>by
  cases hc:qcj d with
  |false=>
   obtain⟨cs,rfl⟩:=qkb hc
   rw[List.flatMap_cons,List.length_append]at h
   simp only[qai]at h
   simp only[qfM]
   have hd:(rc.drop cs.length).all qcj=true:=by
    rw[List.all_eq_true]at ha ⊢
    exact fun x hx=>ha x (List.mem_of_mem_drop hx)
   obtain⟨h1,h2⟩:=qje (ds:=ds) (rc:=rc.drop cs.length) (by rw[List.length_drop];omega) hd
   refine⟨by rw[List.flatMap_cons,h1];simp[qai],?_⟩
   rw[List.map_cons,List.map_cons,h2]
   congr 1
   simp only[qcj,qai,List.length_take,Prod.mk.injEq,true_and]
   omega
  |true=>
   rw[List.flatMap_cons,List.length_append,qc6 hc]at h
   cases rc with
   |nil=>rw[List.length_nil,List.length_singleton]at h;omega
   |cons r rc=>
    simp only[List.all_cons,Bool.and_eq_true]at ha
    obtain⟨h1,h2⟩:=qje (ds:=ds) (rc:=rc) (by rw[List.length_cons,List.length_singleton]at h;omega) ha.2
    have hr:qfM (d::ds) (r::rc)=r::qfM ds rc:=by cases d<;>first|(cases hc;done)|rfl
    rw[hr]
    refine⟨by rw[List.flatMap_cons,h1,qc6 ha.1];rfl,?_⟩
    simp only[List.map_cons,h2,qc6 hc,qc6 ha.1,hc,ha.1]
    rfl
theorem qwR{rv:List ResultVar}{st:St}{r:D}(h:qF0 P rv st=some r):Fin P rv st r:=by
 unfold qF0 at h
 split at h
 ·rename_i ds hds
  simp only at h
  split at h
  ·rename_i rc hrc
   split at h
   ·rename_i hc
    injection h with h
    have hfl:=qwQ hrc
    obtain⟨h1,h2⟩:=qje (qsq hfl) hc.2.2
    refine .inr ⟨_,ds,qfM ds rc,qjd hds,hc.1,?_,h.symm,hc.2.1,h2,?_⟩
    ·rw[h1];exact hfl
    ·rw[h1];exact hc.2.2
   ·cases h
  ·cases h
 ·cases h
theorem qCB(hmix:P.follows .mixedOrders=true){fuel:Nat}(hcall:∀f ds out,call f ds=some out→Contract P f ds out)(hcallM:∀f ds blk r blk',callM f ds blk=some (r,blk')→qcT P f ds blk r blk')
  (f:FuncId) (ds:List D) (out:Outc) (h:qHf P fuel call callM f ds=some out):Contract P f ds out:=by
 unfold qHf at h
 split at h
 ·rename_i fn hf
  split at h
  ·rename_i c hb
   split at h
   ·rename_i hn
    refine qkW hmix hf hb hn.1 hn.2 ?_
    split at h
    ·rename_i st hr
     obtain⟨r,h1,rfl⟩:=Option.map_eq_some_iff.1 h
     exact qjc qej hcall hcallM c _ _ _ _ hr ⟨r,rfl,qwR h1⟩
    ·rename_i st hr
     obtain⟨r,h1,rfl⟩:=Option.map_eq_some_iff.1 h
     exact qjc qej hcall hcallM c _ _ _ _ hr ⟨r,rfl,qwR h1⟩
    ·rename_i d st hr
     injection h with h
     exact qjc qej hcall hcallM c _ _ _ _ hr h.symm
    ·cases h
   ·cases h
  ·cases h
 ·cases h
theorem qwS{rv:List ResultVar}{st:St}{r:D}{blk':Blk}(h:qF1 P rv st=some (r,blk')):(∃ds,rv.map (qb7 P st)=ds.map some∧r=qj2 ds∧lkH st.hp 0=some blk')∧qey blk'.rows=true∧qo1 r=true:=by
 unfold qF1 at h
 split at h
 ·rename_i ds blk h1 h2
  split at h
  ·rename_i h3
   injection h with h
   injection h with h4 h5
   subst h4 h5
   exact⟨⟨ds,qjd h1,rfl,h2⟩,h3.1,h3.2⟩
  ·cases h
 ·cases h
theorem qzx(hmix:P.follows .mixedOrders=true){fuel:Nat}(hcall:∀f ds out,call f ds=some out→Contract P f ds out)(hcallM:∀f ds blk r blk',callM f ds blk=some (r,blk')→qcT P f ds blk r blk')
  (f:FuncId) (ds:List D) (blk:Blk) (r:D) (blk':Blk) (h:qCz P fuel call callM f ds blk=some (r,blk')):qcT P f ds blk r blk':=by
 unfold qCz at h
 split at h
 ·rename_i fn hf
  split at h
  ·rename_i c hb
   split at h
   ·rename_i hn
    split at h
    ·rename_i st hr
     obtain⟨h1,h2,h3⟩:=qwS h
     exact qjI hmix hf hb hn.1 hn.2.1 hn.2.2 h2 h3 (qjc qhd hcall hcallM c _ _ _ _ hr h1)
    ·rename_i st hr
     obtain⟨h1,h2,h3⟩:=qwS h
     exact qjI hmix hf hb hn.1 hn.2.1 hn.2.2 h2 h3 (qjc qhd hcall hcallM c _ _ _ _ hr h1)
    ·cases h
   ·cases h
  ·cases h
 ·cases h
theorem qjf(hmix:P.follows .mixedOrders=true){fuel:Nat}:∀k:Nat,(∀f ds out,(qBg P fuel k).1 f ds=some out→Contract P f ds out)∧∀f ds blk r blk',(qBg P fuel k).2 f ds blk=some (r,blk')→qcT P f ds blk r blk'
 |0=>⟨fun _ _ _ h=>(by cases h),fun _ _ _ _ _ h=>(by cases h)⟩
 |k+1=>⟨qCB hmix (qjf hmix k).1 (qjf hmix k).2,qzx hmix (qjf hmix k).1 (qjf hmix k).2⟩
end
end Go.Pv
namespace Go.Pv.Sq
open Ieee
theorem qlb:double.binade=4503599627370496:=by decide
theorem qBh:double.infRung=9218868437227405312:=by decide
theorem qEN:double.signWeight=9223372036854775808:=by decide
theorem qzy:double.leastPlace= -1074:=by decide
theorem qn2{r:Nat}(h:r<4503599627370496):double.read r=.number false r (-1074):=by
 unfold Format.read
 rw[qlb,qEN,qzy]
 simp only
 rw[Nat.mod_eq_of_lt (show r<9223372036854775808 by omega),if_pos h,Nat.div_eq_of_lt (by omega)]
 rfl
theorem qwT{r:Nat}(h1:4503599627370496≤r)(h2:r<9218868437227405312):double.read r=.number false (4503599627370496+r%4503599627370496) (-1074+(r/4503599627370496-1:Nat)):=by
 unfold Format.read
 rw[qlb,qEN,qzy,qBh]
 simp only
 rw[Nat.mod_eq_of_lt (show r<9223372036854775808 by omega),if_neg (by omega),if_pos h2,Nat.div_eq_of_lt (by omega)]
 rfl
theorem qhw{n:Nat}(h:n≠0):2^n.log2≤n∧n<2^(n.log2+1):=⟨Nat.log2_self_le h,Nat.lt_log2_self⟩
theorem qq5{n drop k:Nat}(h:n<2^(drop+k)):Toward.even.cut false n drop≤2^k:=by
 unfold Toward.cut
 simp only
 generalize hg:(1<<<min drop (n.log2+2):Nat)=gap
 rw[Nat.one_shiftLeft]at hg
 have hlow:n/gap<2^k:=by
  rw[←hg]
  by_cases hd:drop≤n.log2+2
  ·rw[Nat.min_eq_left hd]
   rw[Nat.div_lt_iff_lt_mul (Nat.two_pow_pos _),Nat.mul_comm,←Nat.pow_add]
   exact h
  ·rw[Nat.min_eq_right (by omega)]
   rw[Nat.div_eq_of_lt]
   ·exact Nat.two_pow_pos _
   ·by_cases h0:n=0
    ·subst h0;exact Nat.two_pow_pos _
    ·exact Nat.lt_of_lt_of_le (qhw h0).2 (Nat.pow_le_pow_right (by omega) (by omega))
 have:∀b:Bool,b.toNat≤1:=fun b=>by cases b<;>decide
 have:=this (decide (gap<2*(n%gap))||gap==2*(n%gap)&&n/gap%2==1)
 omega
theorem qm1{mag:Nat}{place last:Int}(h0:mag≠0)(hl:last=place+mag.log2-52)(h1: -1074≤last)(h2:last≤900):
  ∃kept:Nat,kept≤9007199254740992∧double.nearest false mag place=(last+1074).toNat*4503599627370496+kept:=by
 unfold Format.nearest
 rw[if_neg h0]
 have hm:max (place+(mag.log2:Int)-(double.fractionBits:Nat)) double.leastPlace=last:=by
  rw[qzy]
  show max (place+(mag.log2:Int)-((52:Nat):Int)) (-1074)=last
  omega
 simp only[hm]
 rw[qlb,qBh,qzy]
 have hk:Toward.even.cut false (mag<<<(place-last).toNat) (last-place).toNat≤2^53:=by
  apply qq5
  rw[Nat.shiftLeft_eq]
  have:=(qhw h0).2
  by_cases hp:last≤place
  ·have e1:(last-place).toNat=0:=by omega
   have e2:mag.log2+1+(place-last).toNat=53:=by omega
   rw[e1,Nat.zero_add,←e2,Nat.pow_add]
   exact Nat.mul_lt_mul_of_pos_right this (Nat.two_pow_pos _)
  ·have e1:(place-last).toNat=0:=by omega
   have e2:(last-place).toNat+53=mag.log2+1:=by omega
   rw[e1,e2,Nat.pow_zero,Nat.mul_one]
   exact this
 generalize Toward.even.cut false (mag<<<(place-last).toNat) (last-place).toNat=kept at hk
 have hk':kept≤9007199254740992:=by simpa using hk
 refine⟨kept,hk',?_⟩
 rw[show(last- -1074).toNat=(last+1074).toNat by omega,Nat.min_eq_left (by
  have:(last+1074).toNat≤1974:=by omega
  generalize (last+1074).toNat=u at this ⊢
  omega)]
 simp[Format.word]
theorem qn3{m:Nat}{p:Int}(hm:m<9007199254740992)(hp:p≤ -29):∃n:Nat,(Datum.number false m p).toInt .zero=some (n:Int)∧n≤16777216:=by
 refine⟨Toward.zero.cut false (m<<<p.toNat) (-p).toNat,?_,?_⟩
 ·simp[Datum.toInt,Datum.integral,signed]
 ·have e:p.toNat=0:=by omega
  rw[e,Nat.shiftLeft_zero]
  unfold Toward.cut
  simp only[Bool.toNat_false,Nat.add_zero]
  rw[Nat.one_shiftLeft]
  by_cases hd:(-p).toNat≤m.log2+2
  ·rw[Nat.min_eq_left hd]
   have:2^29≤2^(-p).toNat:=Nat.pow_le_pow_right (by omega) (by omega)
   have h2:=Nat.div_le_div_left (a:=m) this (by decide)
   have h3:m/2^29≤16777216:=by omega
   omega
  ·rw[Nat.min_eq_right (by omega)]
   rw[Nat.div_eq_of_lt]
   ·omega
   ·by_cases h0:m=0
    ·subst h0;exact Nat.two_pow_pos _
    ·exact Nat.lt_of_lt_of_le (qhw h0).2 (Nat.pow_le_pow_right (by omega) (by omega))
theorem qCC{mag:Nat}{place:Int}(hm:mag.log2≤56)(h1: -900≤place)(h2:place≤ -34):
  ∃n:Nat,(double.read (double.nearest false mag place)).toInt .zero=some (n:Int)∧n≤16777216:=by
 by_cases h0:mag=0
 ·subst h0
  have:double.nearest false 0 place=0:=by simp[Format.nearest,Format.word]
  rw[this,qn2 (by decide)]
  exact qn3 (by decide) (by decide)
 ·obtain⟨kept,hk,he⟩:=qm1 (last:=place+mag.log2-52) h0 rfl (by omega) (by omega)
  rw[he]
  generalize hr:(place+(mag.log2:Int)-52+1074).toNat*4503599627370496+kept=r
  have hr':r≤1046*4503599627370496:=by
   have:(place+(mag.log2:Int)-52+1074).toNat≤1044:=by omega
   have:=Nat.mul_le_mul_right 4503599627370496 this
   omega
  by_cases hlo:r<4503599627370496
  ·rw[qn2 hlo]
   exact qn3 (by omega) (by decide)
  ·rw[qwT (by omega) (by omega)]
   exact qn3 (by omega) (by omega)
theorem qhx(n:Nat):∀(todo root:Nat),root*root≤n→Datum.rootFrom n todo root*Datum.rootFrom n todo root≤n
 |0,root,h=>h
 |todo+1,root,h=>by
  simp only[Datum.rootFrom]
  split
  ·rename_i h';exact qhx n todo _ h'
  ·exact qhx n todo _ h
theorem qCD{kept:Nat}{i:Int}(hk:kept≠0)(hk2:kept<9007199254740992)(h1: -60≤i)(h2:i≤ -9):
  ∃(mag:Nat) (place:Int),(Datum.number false kept i).root 54=some (.number false mag place)∧mag.log2≤56∧ -900≤place∧place≤ -34:=by
 have hl:kept.log2≤52:=by
  have:=(qhw hk).1
  rcases Nat.lt_or_ge kept.log2 53 with h|h
  ·omega
  ·have h3:2^53≤2^kept.log2:=Nat.pow_le_pow_right (by omega) h
   omega
 simp only[Datum.root,if_neg hk,Bool.false_eq_true,if_false]
 generalize hmo:2*54-kept.log2+((i-((2*54-kept.log2:Nat):Int))%2).toNat=more
 have hm1:56≤more∧more+kept.log2≤109∧more≤110:=by omega
 generalize hn:kept<<<more=n
 have hn':n<2^110:=by
  rw[←hn,Nat.shiftLeft_eq]
  have h4:kept*2^more<2^(kept.log2+1)*2^more:=Nat.mul_lt_mul_of_pos_right (qhw hk).2 (Nat.two_pow_pos _)
  rw[←Nat.pow_add]at h4
  exact Nat.lt_of_lt_of_le h4 (Nat.pow_le_pow_right (by omega) (by omega))
 have hw:=qhx n (n.log2/2+1) 0 (by omega)
 generalize Datum.rootFrom n (n.log2/2+1) 0=whole at hw
 have hw2:whole<2^55:=by
  rcases Nat.lt_or_ge whole (2^55)with h|h
  ·exact h
  ·have:=Nat.mul_le_mul h h
   rw[←Nat.pow_add]at this
   omega
 refine⟨_,_,rfl,?_,by omega,by omega⟩
 have hb:∀b:Bool,b.toNat≤1:=fun b=>by cases b<;>decide
 have hb:=hb (whole*whole !=n)
 generalize hmg:2*whole+(whole*whole !=n).toNat=mag
 have hmag:mag<2^57:=by omega
 by_cases hz:mag=0
 ·rw[hz];decide
 ·have:=(qhw hz).1
  rcases Nat.lt_or_ge mag.log2 57 with h|h
  ·omega
  ·have h5:2^57≤2^mag.log2:=Nat.pow_le_pow_right (by omega) h
   omega
theorem sqrt_small(s:Nat)(hs:s<8796093022208):∃(r n:Nat),FloatKind.f64.format.sqrt (FloatKind.f64.nearest (s:Int))=some r∧(FloatKind.f64.decode r).toInt .zero=some (n:Int)∧n≤16777216:=by
 have e:FloatKind.f64.nearest (s:Int)=double.nearest false s 0:=by
  unfold FloatKind.nearest FloatKind.encode FloatKind.format Format.write
  have:decide ((s:Int)<0)=false:=by simp
  simp only[this,Int.natAbs_natCast]
 rw[e]
 show ∃r n,double.sqrt _=some r∧(double.read r).toInt .zero=some _∧_
 unfold Format.sqrt
 by_cases h0:s=0
 ·subst h0
  have e0:double.nearest false 0 0=0:=by simp[Format.nearest,Format.word]
  rw[e0,qn2 (by decide)]
  have er:(Datum.number false 0 (-1074)).root (double.fractionBits+2)=some (.number false 0 (-1074)):=rfl
  rw[er]
  refine⟨_,0,rfl,?_,by omega⟩
  have:double.write (.number false 0 (-1074))=0:=by simp[Format.write,Format.nearest,Format.word]
  rw[this,qn2 (by decide)]
  rfl
 ·have hl:s.log2≤42:=by
   have:=(qhw h0).1
   rcases Nat.lt_or_ge s.log2 43 with h|h
   ·omega
   ·have h5:2^43≤2^s.log2:=Nat.pow_le_pow_right (by omega) h
    omega
  obtain⟨kept,hk,he⟩:=qm1 (mag:=s) (place:=0) (last:=0+s.log2-52) h0 rfl (by omega) (by omega)
  rw[he]
  generalize hr:((0:Int)+(s.log2:Int)-52+1074).toNat*4503599627370496+kept=r
  have ha:((0:Int)+(s.log2:Int)-52+1074).toNat=s.log2+1022:=by omega
  rw[ha]at hr
  have hr1:1022*4503599627370496≤r:=by
   have:=Nat.mul_le_mul_right 4503599627370496 (show 1022≤s.log2+1022 by omega)
   omega
  have hr2:r≤1066*4503599627370496:=by
   have:=Nat.mul_le_mul_right 4503599627370496 (show s.log2+1022≤1064 by omega)
   omega
  rw[qwT (by omega) (by omega)]
  obtain⟨mag,place,h1,h2,h3,h4⟩:=qCD (kept:=4503599627370496+r%4503599627370496) (i:= -1074+(r/4503599627370496-1:Nat)) (by omega) (by omega) (by omega) (by omega)
  obtain⟨n,hn,hb⟩:=qCC h2 h3 h4
  have er:(Datum.number false (4503599627370496+r%4503599627370496) (-1074+(r/4503599627370496-1:Nat))).root (double.fractionBits+2)=some (.number false mag place):=h1
  rw[er]
  exact⟨_,n,rfl,hn,hb⟩
end Go.Pv.Sq
namespace Go.Pv
class TFloat (P:Program) (t:TypeId):Prop where h:P.underlying t=some (.float .f64)
section
variable {P:Program}{K:X→St→Prop}{env:Env}{hp:Hp}{nx n id:Nat}{s:Tmp}{x:Operand}{t t':TypeId}
theorem quQ{k0 k:IntKind}{a:Int}[h0:TInt P t k0][h1:TFloat P t'](h:qac env x=.int k a)(hd:qak n (some s)=true)(hk:K .normal ⟨(s,.float .f64 (FloatKind.f64.nearest a))::env,hp,nx,n⟩):qap P (.convert t t' x) id (some s) ⟨env,hp,nx,n⟩ K:=by
 rw[qdX]
 refine⟨.float .f64 (FloatKind.f64.nearest a),?_,hd,hk⟩
 rw[h]
 simp only[qnu,h1.h,h0.h,Option.isSome_some,if_true]
theorem quR{b:Nat}{a:Int}[h0:TFloat P t][h1:TInt P t' .i64](h:qac env x=.float .f64 b)(ha:(FloatKind.f64.decode b).toInt .zero=some a)(hr: -9223372036854775808≤a∧a≤9223372036854775807)(hd:qak n (some s)=true)(hk:K .normal ⟨(s,.int .i64 a)::env,hp,nx,n⟩):qap P (.convert t t' x) id (some s) ⟨env,hp,nx,n⟩ K:=by
 rw[qdX]
 refine⟨.int .i64 a,?_,hd,hk⟩
 rw[h]
 simp only[qnu,h1.h,h0.h,Option.isSome_some,ha]
 rw[if_pos (show IntKind.min .i64≤a∧a≤IntKind.max .i64 from hr)]
theorem qq6{args:List Operand}{ts:Array TypeId}{g:FuncId}{args':List D}{k:FloatKind}{q:Nat}(hp':qbX (lkH hp) 64 (args.map (qac env))=some args')(hc:Contract P g args' (.ret (.float k q)))(hd:qak n (some s)=true)
  (h:K .normal ⟨(s,.float k q)::env,hp,nx,n⟩):qap P (.call {callee:=.value (.func g),args:=args.toArray,argTypes:=ts}) id (some s) ⟨env,hp,nx,n⟩ K:=
 qbt hp' hc (Bool.or_true _) (zL rfl) hd h
end
section
variable {P:Program}{K:X→St→Prop}{env:Env}{hp:Hp}{nx n id:Nat}
end
section
variable {P:Program}{w w' w0:World}{pu:Nat→Prop}{ow ow':Nat→Ow}{base:Nat}{g:Sg}
end
section
variable {P:Program}{E:St→St→Prop}{K:X→St→Prop}{env:Env}{hp:Hp}{nx n id:Nat}{s:Tmp}{x y f:Operand}{t t':TypeId}
end
section
variable {P:Program}{E:St→St→Prop}{K:X→St→Prop}{env:Env}{hp:Hp}{nx n id:Nat}{s:Tmp}{x y u v:Operand}{t:TypeId}
end
theorem qek{h:Nat→Option Blk}{b len k:Nat}{rows:List (List D)}{d d':D}{ds rs:List D}(hd:pur h 63 d=some d')(hb:h b=some ⟨k,true,rows⟩)(hl:rows.length=len)(hr:qbX h 62 ds=some rs):qbX h 64 (d:: .os b 0 len::ds)=some (d':: .sl rows::rs):=by
 have e:qbX h 63 (.os b 0 len::ds)=some (.sl rows::rs):=by
  show(pur h 62 _).bind _=_
  rw[qfL (m:=61) hb hl]
  simp only[Option.bind_some,hr,Option.map_some]
 show(pur h 63 _).bind _=_
 rw[hd]
 simp only[Option.bind_some,e,Option.map_some]
section
variable {P:Program}{K:X→St→Prop}{env:Env}{hp:Hp}{nx n id:Nat}{s:Tmp}{x y:Operand}{t:TypeId}
end
section
variable {P:Program}{K:X→St→Prop}{env:Env}{hp:Hp}{nx n id:Nat}
def qjg{α:Type}(f:α→List D)(k:Nat):Prop:=∀a,(f a).length=k∧(f a).all qkw=true∧(f a).all qhk=true
theorem qeC{α:Type}{f:α→List D}{k:Nat}(h:qjg f k)(l:List α):qan (l.map f)=true:=by
 simp only[qan,List.all_map,List.all_eq_true,Function.comp]
 exact fun a _=>List.all_eq_true.1 (h a).2.1
theorem qfN{t e:TypeId}{k len:Nat}{l c:Operand}{s:Tmp}{z:D}[hs:TSlice P t e k](hl:qac env l=.int .i64 (len:Int))(hl':qac env c=.int .i64 (len:Int))(hz:qjX P e=some z)(hkn:known z=true)(hzl:(qai z).length=k)
  (hb:Nat.ble (P.bytesOf e) 4096=true) (hlen:len≤1000000000) (hd:qak n (some s)=true) (hk:K .normal ⟨(s,.os id 0 len)::env,(id,⟨k,qan [qai z],List.replicate len (qai z)⟩)::hp,nx,n⟩):
  qap P (.makeSlice t l c) id (some s) ⟨env,hp,nx,n⟩ K:=by
 have hb':P.bytesOf e≤4096:=Nat.le_of_ble_eq_true hb
 have hmul:(P.bytesOf e:Int)*(len:Int)≤281474976710656:=by
  have:=Int.mul_le_mul (show(P.bytesOf e:Int)≤4096 by omega) (show(len:Int)≤1000000000 by omega) (by omega) (by omega)
  omega
 refine qjF (m:=len) (m':=len) hs.u hl hl' hz ⟨hkn,by rw[hzl,hs.c],by rw[hs.c];exact hs.p,by omega,rfl,by omega,hmul⟩ hd ?_
 rw[Int.toNat_natCast,hs.c]
 exact hk
end
theorem qEO(a b:ByteArray):(a==b)=true↔a=b:=by
 cases a with|mk x=>cases b with|mk y=>
 constructor
 ·intro h
  have h':(x==y)=true:=h
  rw[eq_of_beq h']
 ·intro h
  cases h
  show(x==x)=true
  simp
theorem qlc{α:Type}{td:TypeDesc}{k:D}{key:α→D}{p:α→Bool}(h:∀x,qvJ td k (key x)=some (p x)):∀l:List α,findR td k (l.map fun x=>[key x,.bool true])=some (if l.any p then some (.bool true)else none)
 |[]=>rfl
 |x::l=>by
  have e:=h x
  have ih:=qlc h l
  simp only[List.map_cons,findR,List.any_cons]
  rw[e]
  by_cases hp:p x=true
  ·simp[hp,qf9]
  ·have hp':p x=false:=by simpa using hp
   simp[hp',ih]
theorem qpt{α:Type}(nm:α→ByteArray)(s:ByteArray)(l:List α):findR .string (.str s) (l.map fun x=>[.str (nm x),.bool true])=some (if l.any (fun x=>s==nm x)then some (.bool true)else none):=
 qlc (fun _=>rfl) l
theorem qpu{α:Type}(nm:α→Int)(s:Int)(l:List α):findR (.int .i64) (.int .i64 s) (l.map fun x=>[.int .i64 (nm x),.bool true])=some (if l.any (fun x=>s==nm x)then some (.bool true)else none):=
 qlc (fun _=>rfl) l
theorem quS{α:Type}{nm:α→ByteArray}{s:ByteArray}{l:List α}(h:∀x∈l,nm x≠s):findR .string (.str s) (l.map fun x=>[.str (nm x),.bool true])=some none:=by
 rw[qpt,if_neg]
 intro hh
 obtain⟨x,hx,he⟩:=List.any_eq_true.1 hh
 exact h x hx ((qEO _ _).1 he).symm
theorem quT{α:Type}{nm:α→Int}{s:Int}{l:List α}(h:∀x∈l,nm x≠s):findR (.int .i64) (.int .i64 s) (l.map fun x=>[.int .i64 (nm x),.bool true])=some none:=by
 rw[qpu,if_neg]
 intro hh
 obtain⟨x,hx,he⟩:=List.any_eq_true.1 hh
 exact h x hx (by simpa using he:s=nm x).symm
section
variable {P:Program}{id nx n:Nat}{env:List (Tmp×D)}{hp:List (Nat×Blk)}{K:X→St→Prop}{x:Operand}{s:Tmp}
theorem qzz{b:Nat}(h:qac env x=.om b)(hd:qak n (some s)=true)(hk:K .normal ⟨(s,.om b)::env,hp,nx,n⟩):qap P (.move x) id (some s) ⟨env,hp,nx,n⟩ K:=qd5 h hd hk
def kLc(E:St→St→Prop)(P:Program)(l:List Oper)(m:Nat)(rest:List Oper)(zs:List (List Nat))(z:List Nat)(id:Nat)(K:X→St→Prop):X→St→Prop:=qfi fun st'=>qbP P l st' z∧qcD E P l m rest zs (id+32+32*m) st' K
end
section
variable {P:Program}{K:X→St→Prop}{env:Env}{hp:Hp}{nx n id:Nat}{s:Tmp}
theorem qdY{α:Type}{f:α→List D}{hq:Nat→Option Blk}{m b k len:Nat}{l:List α}(hb:hq b=some ⟨k,true,l.map f⟩)(hlen:len=l.length):pur hq (m+1) (.os b 0 len)=some (.sl (l.map f)):=by
 subst hlen
 have:(l.map f).take l.length=l.map f:=List.take_of_length_le (by simp)
 simp[pur,hb,this]
theorem qwU{α:Type}{f:α→List D}{rv:ResultVar}{b k len:Nat}{l l':List α}(h:qb7 P ⟨env,hp,nx,n⟩ rv=some (.os b 0 len))(hb:lkH hp b=some ⟨k,true,l.map f⟩)(hlen:len=l.length)(e:l=l'):qg3 P [rv] (.ret (.sl (l'.map f))) .ret ⟨env,hp,nx,n⟩:=by
 subst e
 refine⟨_,rfl,.inl ⟨[.pure],[.os b 0 len],[.sl (l.map f)],by simp[h],by simp[qbC],⟨?_,trivial⟩,rfl,fun _=>rfl⟩⟩
 exact qdY (m:=63) (k:=k) (hq:=qbd [] (lkH hp)) (by simp[qbd,hb]) hlen
variable {t:TypeId}{x y z u:Operand}
theorem qEP{zs:List D}{d1 d2 d3 d4:D}[hl:TLay P t zs [(0,1),(1,1),(2,1),(3,1)]](h1:qac env x=d1)(h2:qac env y=d2)(h3:qac env z=d3)(h4:qac env u=d4)(hz:zs.length=4)(c1:qai d1=[d1])(c2:qai d2=[d2])(c3:qai d3=[d3])(c4:qai d4=[d4])
  (p:(known d1&&known d2&&known d3&&known d4)=true) (hd:qak n (some s)=true) (hk:K .normal ⟨(s,.agg [d1,d2,d3,d4])::env,hp,nx,n⟩):
  qap P (.build t #[(0,x),(1,y),(2,z),(3,u)]) id (some s) ⟨env,hp,nx,n⟩ K:=by
 obtain⟨z0,z1,z2,z3,rfl⟩:∃z0 z1 z2 z3,zs=[z0,z1,z2,z3]:=by
  match zs,hz with
  |[z0,z1,z2,z3],_=>exact⟨z0,z1,z2,z3,rfl⟩
 simp only[Bool.and_eq_true]at p
 obtain⟨⟨⟨p1,p2⟩,p3⟩,p4⟩:=p
 refine qh9 (parts:=[(0,x),(1,y),(2,z),(3,u)]) ?_ hd hk
 simp only[List.map_cons,List.map_nil,h1,h2,h3,h4]
 simp only[qnx,List.getElem?_cons_zero,List.getElem?_cons_succ,c1,c2,c3,c4,p1,p2,p3,p4]
 rfl
theorem qwV{zs:List D}{b1 o1 l1 b2 o2 l2 b3 o3 l3 b4 o4 l4:Nat}[hl:TLay P t zs [(0,1),(1,1),(2,1),(3,1)]](h1:qac env x=.os b1 o1 l1)(h2:qac env y=.os b2 o2 l2)(h3:qac env z=.os b3 o3 l3)(h4:qac env u=.os b4 o4 l4)(hz:zs.length=4)
  (hd:qak n (some s)=true) (hk:K .normal ⟨(s,.agg [.os b1 o1 l1,.os b2 o2 l2,.os b3 o3 l3,.os b4 o4 l4])::env,hp,nx,n⟩):
  qap P (.build t #[(0,x),(1,y),(2,z),(3,u)]) id (some s) ⟨env,hp,nx,n⟩ K:=qEP h1 h2 h3 h4 hz rfl rfl rfl rfl rfl hd hk
theorem quU{zs:List D}{a:ByteArray}{k k':IntKind}{b c:Int}[hl:TLay P t zs [(0,1),(1,1),(2,1)]](h1:qac env x=.int k b)(h2:qac env y=.str a)(h3:qac env z=.int k' c)(hz:zs.length=3)(hd:qak n (some s)=true)(hk:K .normal ⟨(s,.agg [.int k b,.str a,.int k' c])::env,hp,nx,n⟩):
  qap P (.build t #[(0,x),(1,y),(2,z)]) id (some s) ⟨env,hp,nx,n⟩ K:=qwJ h1 h2 h3 hz rfl hd hk
theorem qn4{r:D}{args:List Operand}{ts:Array TypeId}{g:FuncId}{args':List D}(hpl:qbV (args.map (qac env))=true)(hp':qbX (lkH hp) 64 (args.map (qac env))=some args')(hc:Contract P g args' (.ret r))(ha:qaO id r=(r,[]))(hw:qqB r≤32)(hd:qak n (some s)=true)
  (h:K .normal ⟨(s,r)::env,hp,nx,n⟩):qap P (.call {callee:=.value (.func g),args:=args.toArray,argTypes:=ts}) id (some s) ⟨env,hp,nx,n⟩ K:=
 qbt hp' hc (by rw[hpl,Bool.true_or]) hw hd (by rw[ha];exact h)
end
section
variable {P:Program}{K:X→St→Prop}{env:Env}{hp:Hp}{nx n id:Nat}
end
def E0:St→St→Prop:=fun _ _=>False
section
variable {P:Program}{w w' w0:World}
theorem qzA{Q:Exit→Act→World→Prop}{a:Act}{t9:Tmp}{g:FuncId}{caps:Array Operand}{id:Nat}{o1 o2:Oper}(h1:o1.dst=some t9)(h2:o1.op=.makeFunc (.func g) #[] caps)(g1:o1.guard=none)
  (h3:o2.dst=none) (h4:o2.op=.defer {callee:=.value (.tmp t9),args:= #[],argTypes:= #[]}) (g2:o2.guard=none) (h9:t9<a.tmps.size)
  (h:Q .normal {tmps:=(a.put (some t9) (.func (.func g) #[] (caps.map a.eval))).tmps,defers:=⟨.fn (.func g) (caps.map a.eval),#[]⟩::a.defers} w):
  (Code.region id #[o1,o2] false).wp P Q a w:=by
 obtain⟨d1,p1,ty1,pos1,af1,gd1⟩:=o1
 obtain⟨d2,p2,ty2,pos2,af2,gd2⟩:=o2
 simp only at h1 h2 g1 h3 h4 g2
 subst h1 h2 g1 h3 h4 g2
 refine wp_region ?_
 have hev:(a.put (some t9) (.func (.func g) #[] (caps.map a.eval))).eval (.tmp t9)=.func (.func g) #[] (caps.map a.eval):=by
  simp only[Act.eval]
  have:=qgf (a:=a) (s:=t9) (t:=t9) (v:=.func (.func g) #[] (caps.map a.eval)) h9
  simpa using this
 simp only[show(#[(⟨some t9,.makeFunc (.func g) #[] caps,ty1,pos1,af1,none⟩:Oper),⟨none,.defer {callee:=.value (.tmp t9),args:= #[],argTypes:= #[]},ty2,pos2,af2,none⟩]:Array Oper).size=2 from rfl,show List.range 2=[0,1]from rfl]
 simp only[wpOps,List.getElem?_toArray,List.getElem?_cons_zero,List.getElem?_cons_succ,Region.wanted,if_true]
 left
 simp only[Oper.wp,execOp,Instr.makeFunc,Sem.run_bind,Sem.run_pure,Result.andThen_ok,Oper.upon,List.map_toArray,List.map_nil]
 left
 rw[show(resolve (a.put (some t9) (.func (.func g) #[] (caps.map a.eval))).eval {callee:=.value (.tmp t9),args:= #[],argTypes:= #[]} ty2)=Deferred.ofValue (.func (.func g) #[] (caps.map a.eval)) #[]by simp[resolve,hev]]
 simp only[Deferred.ofValue,Sem.run_pure,Result.andThen_ok]
 exact h
theorem qzB{n:Nat}{d:D}(h:qa0 d=true):adC n d=(d,[]):=by
 cases d<;>first|rfl|cases h
theorem qn5:∀{cs:List D} {n:Nat},cs.all qa0=true→adL n cs=(cs,[])
 |[],_,_=>rfl
 |d::cs,n,h=>by
  simp only[List.all_cons,Bool.and_eq_true]at h
  rw[adL,qzB h.1,qn5 h.2]
  rfl
theorem qm2{S pu:Nat→Prop}{ow:Nat→Ow}{v1 v2:Value}{cs:List D}{b:Bool}(hb:Below w.heap.size w w')(h1:Rep w' pu ow v1 (.agg cs))(h2:Rep w' pu ow v2 (.bool b))(hs:cs.all qa0=true):
  qvQ w S (.ret (.tup [.agg cs,.bool b])) (.returned (.tuple #[v1,v2])) w':=by
 refine⟨hb,fun _=>False,fun g hg=>hg.elim,_,rfl,fun n=>⟨fun _=>.pending,?_,?_,fun _ _=>rfl⟩⟩
 ·have e:(qaO n (.tup [.agg cs,.bool b])).2=[]:=by simp[qaO,adT,adE,qn5 hs,adC]
  rw[e]
  exact⟨fun b blk hb=>by simp[lkH]at hb,fun b _=>.inr rfl,fun b b' g h=>h.elim,fun b g h=>h.elim,fun g hg=>hg.elim⟩
 ·have e:(qaO n (.tup [.agg cs,.bool b])).1=.tup [.agg cs,.bool b]:=by simp[qaO,adT,adE,qn5 hs,adC]
  rw[e]
  have k1:Rep w' (fun _=>False) (fun _=>.pending) v1 (.agg cs):=by
   obtain⟨vs,rfl,hl,hc⟩:=h1.agg_inv
   refine .agg _ _ hl fun i v d hv hd=>?_
   have hsd:qa0 d=true:=List.all_eq_true.1 hs d (List.mem_of_getElem? hd)
   have:=hc i v d hv hd
   cases this with
   |pure _ _ h=>exact .pure _ _ (qcn h hsd)
   |_=>cases hsd
  have k2:Rep w' (fun _=>False) (fun _=>.pending) v2 (.bool b):=by
   cases h2 with
   |pure _ _ h=>exact .pure _ _ (qcn h rfl)
  refine .tup _ _ rfl fun i v d hv hd=>?_
  match i,hv,hd with
  |0,hv,hd=>simp at hv hd;subst hv hd;exact k1
  |1,hv,hd=>simp at hv hd;subst hv hd;exact k2
  |i+2,hv,hd=>simp at hv
def qzC(P:Program)(g:FuncId):Prop:=∀(va vb:Value) (w:World),CallsD P g #[va,vb] .returning w fun e u' w'=>(∃x,e=.returned x)∧u'=.returning∧w'=w
def qEQ(P:Program)(g:FuncId)(ka kb:Nat)(d:D)(Tv Tb:TypeId)(cs:List D)(b:Bool):Prop:=
 ∀(base:Nat) (ow:Nat→Ow) (w:World) (va vb v:Value),RepP w (fun _=>False) v d→base≤w.heap.size→
  Mem base w (fun _=>False) ow (lkH [(0,⟨ka,false,[List.replicate ka .undef]⟩),(1,⟨kb,false,[List.replicate kb .undef]⟩)])→(∀c,2≤c→ow c=.pending)→
  Rep w (fun _=>False) ow va (.op 0 0 0)→Rep w (fun _=>False) ow vb (.op 1 0 0)→
  CallsD P g #[va,vb] (.panicking [{v,recovered:=false}]) w fun e u' w'=>(∃x,e=.returned x)∧u'=.panicking [{v,recovered:=true}]∧Below base w w'∧
   ∃pu' ow' hp,Mem base w' pu' ow' (lkH hp)∧Rep w' pu' ow' va (.op 0 0 0)∧Rep w' pu' ow' vb (.op 1 0 0)∧qhS P (lkH hp) Tv (.op 0 0 0)=some (.agg cs)∧qhS P (lkH hp) Tb (.op 1 0 0)=some (.bool b)
def qHg(P:Program)(g:FuncId)(rv:List ResultVar)(tv tb:Tmp)(Tv Tb:TypeId)(bv bb ka kb:Nat)(cs:List D)(b:Bool):X→St→Prop
 |.normal,st=>qzC P g∧rv.map (qb7 P st)=[some (.agg cs),some (.bool b)]
 |.ret,st=>qzC P g∧rv.map (qb7 P st)=[some (.agg cs),some (.bool b)]
 |.pan d,st=>qmc d=true∧lkE st.env tv=.op bv 0 0∧lkE st.env tb=.op bb 0 0∧qEQ P g ka kb d Tv Tb cs b
 |_,_=>False
def owR(ow:Nat→Ow)(bv bb:Nat)(c:Nat):Ow:=if c=bv∨c=bb then ow c else .pending
theorem qpv{g:FuncId}{cap:Array Value}(h:qDZ P g):(invoke (.fn (.func g) cap) #[]).run P w=.ok (.enter g cap) w:=by
 obtain⟨fn,hf,hb,hn⟩:=h
 have hb':fn.body≠none:=fun e=>by rw[e]at hb;cases hb
 have hn':fn.name≠ "runtime.NumGoroutine" :=by simpa using hn
 simp[invoke,callFunc,hf,hb',hn']
theorem qwW{base:Nat}{pu:Nat→Prop}{ow:Nat→Ow}{hp:Nat→Option Blk}(hm:Mem base w pu ow hp){b:Nat}{x:Blk}(hx:hp b=some x){v:Value}(hv:Rep w pu ow v (.op b 0 0)):
  ∃g o z,ow b=.lies g o x.k z∧v=.pointer (some ⟨g,o+0*x.k+0,none⟩)∧o+x.rows.length*x.k≤z:=by
 cases hv with
 |pure _ _ h=>cases h
 |opd a _ _ _ hb=>exact(hm.live hx hb).elim
 |opa _ _ _ g o k z hb=>
  have h:=hm.blk b x hx
  rw[hb]at h
  obtain⟨_,rfl,_,_,h4,_⟩:=h
  exact⟨g,o,z,hb,rfl,h4⟩
theorem qwX{pu:Nat→Prop}{ow:Nat→Ow}{b g o k z:Nat}(hb:ow b=.lies g o k z){v:Value}(hv:Rep w pu ow v (.op b 0 0)):v=.pointer (some ⟨g,o+0*k+0,none⟩):=by
 cases hv with
 |pure _ _ h=>cases h
 |opd a _ _ _ h=>rw[hb]at h;cases h
 |opa _ _ _ g' o' k' z' h=>rw[hb]at h;cases h;rfl
theorem qpw{base:Nat}{pu pu':Nat→Prop}{ow ow':Nat→Ow}{hp:Nat→Option Blk}(hm:Mem base w pu ow hp){b g o k z:Nat}(hb:ow b=.lies g o k z)(hz:o+1*k≤z):qb5 w pu' ow' (.lies g o k z) ⟨k,false,[List.replicate k .undef]⟩:=by
 cases hx:hp b with
 |none=>rcases hm.none b hx with h|h<;>rw[hb]at h<;>cases h
 |some x=>
  have h:=hm.blk b x hx
  rw[hb]at h
  obtain⟨_,_,h2,_,_,c,t,h5,h6,_⟩:=h
  refine⟨fun h=>(by cases h),rfl,h2,fun r hr=>?_,by simpa using hz,c,t,h5,h6,fun i j d hd=>?_⟩
  ·simp at hr;subst hr;simp
  ·unfold qau at hd
   obtain⟨r,hr,hj⟩:=Option.bind_eq_some_iff.1 hd
   cases i with
   |succ i=>simp at hr
   |zero=>
    simp at hr;subst hr
    rw[List.getElem?_replicate]at hj
    split at hj
    ·injection hj with hj;subst hj
     exact⟨_,Array.getElem?_eq_getElem (by omega),.pure _ _ (.undef _)⟩
    ·cases hj
theorem qld{f:FuncId}{fn:Func}{r0 rest:Code}{ds:List D}{g i1:Nat}{o1 o2:Oper}{tv tb t9:Tmp}{Tv Tb:TypeId}{cs:List D}{b:Bool}(hmix:P.follows .mixedOrders=true)(hf:P.funcs[f]? =some fn)
  (hb:fn.body=some (.seq r0 (.seq (.region i1 #[o1,o2] false) rest))) (hname:(fn.name== "runtime.NumGoroutine")=false) (hn:ds.length≤fn.ntmps) (hres:fn.results.toList=[.cell tv Tv,.cell tb Tb])
  (h1:o1.dst=some t9) (h2:o1.op=.makeFunc (.func g) #[] #[.tmp tv,.tmp tb]) (g1:o1.guard=none) (h3:o2.dst=none) (h4:o2.op=.defer {callee:=.value (.tmp t9),args:= #[],argTypes:= #[]}) (g2:o2.guard=none)
  (htb:tb≠tv) (hg:qDZ P g) (hna:qdk rest=true) (hsc:cs.all qa0=true)
  (h:ev P r0 (fun x st=>x=.normal∧qak st.n (some t9)=true∧∃bv bb xv xb,lkE st.env tv=.op bv 0 0∧lkE st.env tb=.op bb 0 0∧bv≠bb∧lkH st.hp bv=some xv∧lkH st.hp bb=some xb∧xv.rows.length=1∧xb.rows.length=1∧
   evG E0 P rest (qHg P g fn.results.toList tv tb Tv Tb bv bb xv.k xb.k cs b) {st with env:=(t9,.undef)::st.env}) ⟨qab 0 ds,[],0,fn.ntmps⟩):Contract P f ds (.ret (.tup [.agg cs,.bool b])):=by
 refine⟨⟨fn,hf,by rw[hb];rfl,hname⟩,fun S w args hS ⟨hlen,hargs⟩=>?_⟩
 refine calls_of_wp_defers hf hb ?_
 have hi:qcb w ⟨S,w,S,fun _=>.pending,[]⟩ 0 ⟨qab 0 ds,[],0,fn.ntmps⟩ {tmps:=args++Array.replicate (fn.ntmps-args.size) undef,defers:=[]} w:=by
  refine⟨S,fun _=>.pending,⟨fun b blk hb=>by simp[lkH]at hb,fun b _=>.inr rfl,fun b b' g h=>h.elim,fun b g h=>h.elim,hS⟩,fun s=>?_,Below.refl _ _,fun g hg=>.inl hg,fun b _=>rfl,by simp;omega,rfl,fun g hg=>⟨hg,rfl⟩,fun b=>.inl rfl⟩
  simp only
  rw[qh7,if_pos (Nat.zero_le _),Nat.sub_zero,Array.getD_eq_getD_getElem?,Array.getElem?_append]
  split
  ·rename_i hs
   rw[Array.getElem?_eq_getElem hs,List.getD_eq_getElem?_getD,List.getElem?_eq_getElem (by omega)]
   simp only[Option.getD_some]
   exact .pure _ _ (hargs s _ _ (Array.getElem?_eq_getElem hs) (List.getElem?_eq_getElem (by omega)))
  ·rename_i hs
   rw[List.getD_eq_getElem?_getD,List.getElem?_eq_none (by omega)]
   exact .pure _ _ (.undef _)
 refine wp_seq (wp_mono (qEn hmix r0 _ _ _ w (fun _=>rfl) hi h) fun e a1 w1 he=>?_)
 cases e with
 |normal=>
  obtain⟨st,⟨-,hok,bv,bb,xv,xb,ev1,ev2,hne,hx1,hx2,hl1,hl2,hrest⟩,hi1⟩:=he
  obtain⟨pu,ow,hm,henv,hbw,hz,hid,hsz,hdf,hkp⟩:=hi1
  refine wp_seq (qzA h1 h2 g1 h3 h4 g2 (by rw[hsz];simpa[qak]using hok) ?_)
  rw[show(#[Operand.tmp tv,.tmp tb].map a1.eval)= #[a1.eval (.tmp tv),a1.eval (.tmp tb)]by simp]
  generalize hva:a1.eval (.tmp tv)=va
  generalize hvb:a1.eval (.tmp tb)=vb
  rw[hdf]
  have hi2:qcb w ⟨S,w,S,owR ow bv bb,[⟨.fn (.func g) #[va,vb],#[]⟩]⟩ st.nx {st with env:=(t9,.undef)::st.env} {tmps:=(a1.put (some t9) (.func (.func g) #[] #[va,vb])).tmps,defers:=[⟨.fn (.func g) #[va,vb],#[]⟩]} w1:=by
   refine⟨pu,ow,hm,?_,hbw,hz,hid,by rw[qcX];exact hsz,rfl,hkp.1,fun c=>?_⟩
   rotate_left
   ·show owR ow bv bb c=_∨ow c=owR ow bv bb c
    unfold owR;split
    ·exact .inr rfl
    ·exact .inl rfl
   exact henv.put (dst:=some t9) (by rw[hsz];exact hok) (.pure _ _ (.undef _))
  refine wp_mono (qsa hmix (E:=E0) (fun _ _ _ _ he _=>he.elim) rest _ _ _ w1 (.inr hna) hi2 hrest) fun e a2 w2 he=>?_
  have fin:∀st2,qzC P g∧fn.results.toList.map (qb7 P st2)=[some (.agg cs),some (.bool b)]→qcb w ⟨S,w,S,owR ow bv bb,[⟨.fn (.func g) #[va,vb],#[]⟩]⟩ st2.nx st2 a2 w2→Leaves P fn a2.tmps (qvQ w S (.ret (.tup [.agg cs,.bool b]))) a2.defers .returning w2:=by
   rintro st2 ⟨hdoor,hr⟩ ⟨pu2,ow2,hm2,he2,hb2,hz2,hid2,hsz2,hdf2,hkp2⟩
   rw[hdf2]
   refine leaves_cons (f:=g) (args:= #[va,vb]) (by simp) (qpv hg) ((hdoor va vb w2).mono ?_)
   rintro e u' w' ⟨⟨x,rfl⟩,rfl,rfl⟩
   obtain⟨vs,k1,k2,k3⟩:=qgM (P:=P) (fn:=fn) hm2 he2 (ds:=[.agg cs,.bool b]) hr
   match vs,k2 with
   |[v1,v2],_=>exact⟨_,k1,qm2 hb2 (k3 0 v1 _ rfl rfl) (k3 1 v2 _ rfl rfl) hsc⟩
  cases e with
  |normal=>obtain⟨st2,hk,hi3⟩:=he;exact fin st2 hk hi3
  |ret=>obtain⟨st2,hk,hi3⟩:=he;exact fin st2 hk hi3
  |panic chain=>
   obtain⟨d,st2,⟨hpan,e1,e2,hdoor⟩,hdf2,hbl,Q,v,rfl,hQ,hv,pu2,ow2,hm2,he2,hkp2⟩:=he
   show Leaves P fn a2.tmps _ a2.defers (.panicking _) w2
   rw[hdf2]
   obtain⟨gv,ov,zv,hov,q1,q2⟩:=qwW hm hx1 (v:=va) (by rw[←ev1,←hva];exact henv tv)
   obtain⟨gb,ob,zb,hob,q3,q4⟩:=qwW hm hx2 (v:=vb) (by rw[←ev2,←hvb];exact henv tb)
   have o1:ow2 bv=.lies gv ov xv.k zv:=by
    rcases hkp2.2 bv with h|h
    ·simp only[owR,true_or,if_true]at h;rw[hov]at h;cases h
    ·rw[h];simp only[owR,true_or,if_true];exact hov
   have o2:ow2 bb=.lies gb ob xb.k zb:=by
    rcases hkp2.2 bb with h|h
    ·simp only[owR,or_true,if_true]at h;rw[hob]at h;cases h
    ·rw[h];simp only[owR,or_true,if_true];exact hob
   have p1:a2.tmps.getD tv undef=va:=(qwX o1 (by rw[←e1];exact he2 tv)).trans q1.symm
   have p2:a2.tmps.getD tb undef=vb:=(qwX o2 (by rw[←e2];exact he2 tb)).trans q3.symm
   let ow3:Nat→Ow:=fun c=>if c=0 then ow2 bv else if c=1 then ow2 bb else .pending
   have hm3:Mem w.heap.size w2 (fun _=>False) ow3 (lkH [(0,⟨xv.k,false,[List.replicate xv.k .undef]⟩),(1,⟨xb.k,false,[List.replicate xb.k .undef]⟩)]):=by
    refine⟨fun c blk hc=>?_,fun c hc=>?_,fun c c' g h h'=>?_,fun c g h=>?_,fun g hg=>hg.elim⟩
    ·simp only[lkH]at hc
     split at hc
     ·rename_i h0;subst h0
      injection hc with hc;subst hc
      show qb5 _ _ _ (ow2 bv) _
      rw[o1]
      exact qpw hm2 o1 (by rw[←hl1];exact q2)
     ·split at hc
      ·rename_i h0;subst h0
       injection hc with hc;subst hc
       show qb5 _ _ _ (ow2 bb) _
       rw[o2]
       exact qpw hm2 o2 (by rw[←hl2];exact q4)
      ·cases hc
    ·simp only[lkH]at hc
     split at hc
     ·cases hc
     ·split at hc
      ·cases hc
      ·rename_i k0 k1
       right
       show(if c=0 then _ else if c=1 then _ else _)=_
       rw[if_neg k0,if_neg k1]
    ·have key:∀c,(ow3 c).on g→(c=0∧(ow2 bv).on g)∨(c=1∧(ow2 bb).on g):=fun c h=>by
      simp only[ow3]at h
      split at h
      ·exact .inl ⟨by assumption,h⟩
      ·split at h
       ·exact .inr ⟨by assumption,h⟩
       ·exact h.elim
     rcases key c h with⟨rfl,k⟩|⟨rfl,k⟩<;>rcases key c' h' with⟨rfl,k'⟩|⟨rfl,k'⟩
     ·rfl
     ·exact(hne (hm2.injO _ _ _ k k')).elim
     ·exact(hne (hm2.injO _ _ _ k' k)).elim
     ·rfl
    ·simp only[ow3]at h
     split at h
     ·exact⟨(hm2.ownO _ _ h).1,fun h=>h⟩
     ·split at h
      ·exact⟨(hm2.ownO _ _ h).1,fun h=>h⟩
      ·exact h.elim
   have t1:Rep w2 (fun _=>False) ow3 va (.op 0 0 0):=by rw[q1];exact .opa 0 0 0 gv ov xv.k zv (show ow2 bv=_ from o1)
   have t2:Rep w2 (fun _=>False) ow3 vb (.op 1 0 0):=by rw[q3];exact .opa 1 0 0 gb ob xb.k zb (show ow2 bb=_ from o2)
   refine leaves_cons (f:=g) (args:= #[va,vb]) (by simp) (qpv hg) ((hdoor w.heap.size ow3 w2 va vb v (qiX hv hpan) hbl.size hm3 (fun c hc=>?_) t1 t2).mono ?_)
   ·show(if c=0 then _ else if c=1 then _ else _)=_
    rw[if_neg (by omega),if_neg (by omega)]
   rintro e u' w' ⟨⟨x,rfl⟩,rfl,hb3,pu',ow',hp,hm4,s1,s2,l1,l2⟩
   have he4:qfB w' pu' ow' [(tv,.op 0 0 0),(tb,.op 1 0 0)] a2:=fun s=>by
    simp only[lkE]
    split
    ·rename_i h;subst h;rw[p1];exact s1
    ·split
     ·rename_i h;subst h;rw[p2];exact s2
     ·exact .pure _ _ (.undef _)
   obtain⟨vs,k1,k2,k3⟩:=qgM (P:=P) (fn:=fn) (st:=⟨[(tv,.op 0 0 0),(tb,.op 1 0 0)],hp,0,0⟩) hm4 he4 (ds:=[.agg cs,.bool b]) (by
    rw[hres]
    simp only[List.map_cons,List.map_nil,qb7,lkE,if_true,if_neg htb,l1,l2])
   match vs,k2 with
   |[v1,v2],_=>
    refine⟨_,k1,qm2 (hbl.trans ?_) (k3 0 v1 _ rfl rfl) (k3 1 v2 _ rfl rfl) hsc⟩
    exact hb3
  |exit id=>obtain⟨st2,hk,_⟩:=he;exact hk.elim
  |_=>exact he.elim
 |panic chain=>
  obtain⟨d,st,⟨hk,_⟩,_⟩:=he
  cases hk
 |ret=>obtain⟨st,⟨hk,_⟩,_⟩:=he;cases hk
 |exit id=>obtain⟨st,⟨hk,_⟩,_⟩:=he;cases hk
 |_=>exact he.elim
end
def qzD(bs:List Nat)(hp:Nat→Option Blk):Nat→Option Blk:=fun b=>if b∈bs then hp b else none
def qzE(bs:List Nat)(hp:Hp):Hp:=hp.filter fun x=> !bs.elem x.1
theorem qle{bs:List Nat}:∀(hp:Hp) (b:Nat),lkH (qzE bs hp) b=if b∈bs then none else lkH hp b
 |[],b=>by simp[qzE,lkH]
 |(k,x)::hp,b=>by
  have ih:=qle (bs:=bs) hp b
  unfold qzE at ih ⊢
  simp only[List.filter_cons,lkH]
  by_cases hk:k∈bs
  ·simp only[List.elem_eq_mem,hk,decide_true,Bool.not_true,Bool.false_eq_true,if_false]at ih ⊢
   rw[ih]
   by_cases hb:b=k
   ·subst hb;simp[hk]
   ·simp[hb]
  ·simp only[List.elem_eq_mem,hk,decide_false,Bool.not_false,if_true,lkH]at ih ⊢
   rw[ih]
   by_cases hb:b=k
   ·subst hb;simp[hk]
   ·simp[hb]
section
variable {P:Program}{K:X→St→Prop}{env:Env}{hp:Hp}{nx n id:Nat}
theorem qm3(bs:List Nat)(ss:List (Nat×D)){env:Env}{hp:Hp}{nx n:Nat}(h:∀x∈ss,pur (qzD bs (lkH hp)) 64 (lkE env x.1)=some x.2):qcr ⟨env,hp,nx,n⟩ ⟨ss++env,qzE bs hp,nx,n⟩:=by
 intro w0 S a w hF ⟨pu,ow,hm,he,hbw,hz,hid,hs,hdf,hkp⟩
 let owX:Nat→Ow:=fun b=>if b∈bs then ow b else .dead
 have hpd:∀o:Ow,Decidable (o=.pending):=fun o=>by cases o<;>first|exact isTrue rfl|exact isFalse (fun h=>by cases h)
 let owY:Nat→Ow:=fun b=>if b∈bs∧ow b≠ .pending then .dead else ow b
 have hXe:Ext w pu ow w pu owX:=⟨fun g hg=>⟨hg,rfl⟩,fun b=>by
  simp only[owX];split
  ·exact .inr (.inl rfl)
  ·exact .inr (.inr rfl)⟩
 let pu':Nat→Prop:=fun g=>pu g∨∃b∈bs,(ow b).on g
 have hz':∀g,pu g→pu' g:=fun g hg=>.inl hg
 have hY:Ext w pu ow w pu' owY:=⟨fun g hg=>⟨.inl hg,rfl⟩,fun b=>by
  simp only[owY];split
  ·exact .inr (.inr rfl)
  ·exact .inr (.inl rfl)⟩
 have hYon:∀b g,(owY b).on g→b∉bs∧(ow b).on g:=fun b g hh=>by
  simp only[owY]at hh
  split at hh
  ·exact hh.elim
  ·rename_i hn
   refine⟨fun hb=>hn ⟨hb,fun e=>?_⟩,hh⟩
   rw[e]at hh;exact hh.elim
 have hmX:Mem w0.heap.size w pu owX (qzD bs (lkH hp)):=by
  have hon:∀b g,(owX b).on g→(ow b).on g:=fun b g hh=>by
   simp only[owX]at hh
   split at hh
   ·exact hh
   ·exact hh.elim
  refine⟨fun b blk hb=>?_,fun b hb=>?_,fun b b' g e e'=>hm.injO b b' g (hon _ _ e) (hon _ _ e'),fun b g e=>hm.ownO b g (hon _ _ e),hm.zone⟩
  ·simp only[qzD]at hb
   split at hb
   ·rename_i hn
    have:owX b=ow b:=if_pos hn
    rw[this]
    exact(hm.blk b blk hb).mono hXe fun _ _=>rfl
   ·cases hb
  ·simp only[qzD]at hb
   split at hb
   ·rename_i hn
    have:owX b=ow b:=if_pos hn
    rw[this]
    exact hm.none b hb
   ·rename_i hn;left;exact if_neg hn
 refine⟨pu',owY,⟨fun b blk hb=>?_,fun b hb=>?_,fun b b' g e e'=>hm.injO b b' g (hYon _ _ e).2 (hYon _ _ e').2,fun b g e=>?_,fun g hg=>?_⟩,fun s=>?_,hbw,fun g hg=>?_,fun b hb=>?_,hs,hdf,fun g hg=>?_,fun b=>.inl (hF b)⟩
 ·rw[qle]at hb
  split at hb
  ·cases hb
  ·rename_i hn
   have e:owY b=ow b:=by simp[owY,hn]
   rw[e]
   exact(hm.blk b blk hb).mono hY fun _ _=>rfl
 ·rw[qle]at hb
  simp only[owY]
  split
  ·exact .inl rfl
  ·rename_i hn
   by_cases hb2:b∈bs
   ·right
    cases ho:ow b with
    |pending=>rfl
    |_=>exact(hn ⟨hb2,by rw[ho];exact fun h=>by cases h⟩).elim
   ·rw[if_neg hb2]at hb
    exact hm.none b hb
 ·obtain⟨h1,h2⟩:=hYon b g e
  refine⟨(hm.ownO b g h2).1,?_⟩
  rintro(hp'|⟨c,hc,hon⟩)
  ·exact(hm.ownO b g h2).2 hp'
  ·exact h1 (hm.injO _ _ _ h2 hon▸hc)
 ·rcases hg with hg|⟨b,hb,hon⟩
  ·exact hm.zone g hg
  ·cases ho:ow b with
   |lies g' o k sz=>rw[ho]at hon;obtain rfl:g'=g:=hon;exact hm.at_lt ho
   |mp g'=>
    rw[ho]at hon
    obtain rfl:g'=g:=hon
    cases hl:lkH hp b with
    |none=>rcases hm.none b hl with e|e<;>rw[ho]at e<;>cases e
    |some blk=>
     have:=hm.blk b blk hl
     rw[ho]at this
     obtain⟨_,_,_,_,h5,_⟩:=this
     exact(Array.getElem?_eq_some_iff.1 h5).1
   |_=>rw[ho]at hon;exact hon.elim
 ·have hs2:=he s
  by_cases hin:s∈ss.map (·.1)
  ·rw[qi4,if_pos hin]
   have:∀(ss:List (Nat×D)),s∈ss.map (·.1)→∃x∈ss,x.1=s∧lkE ss s=x.2:=by
    intro ss
    induction ss with
    |nil=>intro h;simp at h
    |cons y ss ih=>
     intro hh
     obtain⟨k,d⟩:=y
     simp only[lkE]
     by_cases hk:s=k
     ·exact⟨(k,d),by simp,hk.symm,by rw[if_pos hk]⟩
     ·rw[if_neg hk]
      obtain⟨x,h1,h2⟩:=ih (by simpa[hk]using hh)
      exact⟨x,by simp[h1],h2⟩
   obtain⟨x,hx,rfl,hl⟩:=this ss hin
   rw[hl]
   refine .pure _ _ (qmB hmX hz' 64 _ _ _ ((hs2).mono hXe) (.inr fun b g o k sz hh=>?_) (h x hx))
   simp only[owX]at hh
   split at hh
   ·rename_i hb;exact .inr ⟨b,hb,by rw[hh];rfl⟩
   ·cases hh
  ·rw[qi4,if_neg hin]
   exact hs2.mono hY
 ·rcases hg with hg|⟨b,hb,hon⟩
  ·exact hz g hg
  ·exact .inr (hm.ownO b g hon).1
 ·simp only[owY]
  rw[if_neg (fun hn=>hn.2 (hid b hb))]
  exact hid b hb
 ·obtain⟨h1,h2⟩:=hkp.1 g hg
  exact⟨.inl h1,h2⟩
variable {s:Tmp}{x y:Operand}{t t':TypeId}
theorem qsr{a:Int}(h: -9223372036854775808≤a∧a≤9223372036854775807):IntKind.wrap .i64 a=a:=by
 simp[IntKind.wrap,IntKind.bits,IntKind.signed]
 omega
theorem qER{k:Nat}(h:k≤62):2^k≤4611686018427387904:=Nat.le_trans (Nat.pow_le_pow_right (by decide) h) (by decide)
theorem qce{kk:IntKind}{k:Nat}(h1:qac env x=.int .i64 1)(h2:qac env y=.int kk (k:Int))(hd:qak n (some s)=true)(hr:k≤62)(hk:K .normal ⟨(s,(.int .i64 ((2^k:Nat):Int)))::env,hp,nx,n⟩):
  qap P (.binOp .shl t x y t') id (some s) ⟨env,hp,nx,n⟩ K:=by
 refine qaz ?_ hd hk
 simp only[h1,h2,qoG]
 rw[if_pos (Int.natCast_nonneg k),Int.one_mul]
 have e:min (k:Int).toNat IntKind.i64.bits=k:=by simp[IntKind.bits];omega
 rw[e,qsr]
 ·simp
 ·have:=qER hr
  have e2:((2:Int)^k)=((2^k:Nat):Int):=by simp
  rw[e2]
  generalize 2^k=q at*
  omega
theorem qdx{kk:IntKind}{a k:Nat}(h1:qac env x=.int .i64 (a:Int))(h2:qac env y=.int kk (k:Int))(hd:qak n (some s)=true)(hr:k≤62)(hk:K .normal ⟨(s,(.int .i64 ((a/2^k:Nat):Int)))::env,hp,nx,n⟩):
  qap P (.binOp .shr t x y t') id (some s) ⟨env,hp,nx,n⟩ K:=by
 refine qaz ?_ hd hk
 simp only[h1,h2,qoG]
 rw[if_pos (Int.natCast_nonneg k)]
 have e:min (k:Int).toNat IntKind.i64.bits=k:=by simp[IntKind.bits];omega
 rw[e,Int.fdiv_eq_ediv_of_nonneg _ (by have:(0:Int)<2^k:=Int.pow_pos (by omega);omega)]
 simp
theorem qeD{a:Nat}(h1:qac env x=.int .i64 (a:Int))(h2:qac env y=.int .i64 1)(hd:qak n (some s)=true)(hk:K .normal ⟨(s,(.int .i64 ((a%2:Nat):Int)))::env,hp,nx,n⟩):
  qap P (.binOp .and t x y t') id (some s) ⟨env,hp,nx,n⟩ K:=by
 refine qaz ?_ hd hk
 simp only[h1,h2,qoG,qvI,if_true]
 have e:(BitVec.ofInt IntKind.i64.bits (a:Int)&&&BitVec.ofInt IntKind.i64.bits 1).toNat=a%2:=by
  show(BitVec.ofInt 64 (a:Int)&&&BitVec.ofInt 64 1).toNat=a%2
  rw[BitVec.toNat_and]
  simp
 rw[e,qsr (by omega)]
theorem qlf{a b:Nat}(h1:qac env x=.int .i64 (a:Int))(h2:qac env y=.int .i64 (b:Int))(hd:qak n (some s)=true)(hr:a<4611686018427387904∧b<4611686018427387904)(hk:K .normal ⟨(s,(.int .i64 ((a|||b:Nat):Int)))::env,hp,nx,n⟩):
  qap P (.binOp .or t x y t') id (some s) ⟨env,hp,nx,n⟩ K:=by
 refine qaz ?_ hd hk
 simp only[h1,h2,qoG,qvI,if_true]
 have e:(BitVec.ofInt IntKind.i64.bits (a:Int)|||BitVec.ofInt IntKind.i64.bits (b:Int)).toNat=a|||b:=by
  show(BitVec.ofInt 64 (a:Int)|||BitVec.ofInt 64 (b:Int)).toNat=a|||b
  rw[BitVec.toNat_or]
  simp
  rw[Nat.mod_eq_of_lt (by omega),Nat.mod_eq_of_lt (by omega)]
 rw[e,qsr]
 have:a|||b<2^62:=Nat.or_lt_two_pow hr.1 hr.2
 omega
def qIw(c:Bool)(r d:D):Outc:=if c=true then .ret r else .pan d
theorem qck{args:List Operand}{dst:Option Tmp}{ts:Array TypeId}{g:FuncId}{args':List D}{c:Bool}{d:D}(hp':qbX (lkH hp) 64 (args.map (qac env))=some args')(hc:Contract P g args' (qIw c (.tup []) d))(hs:qmc d=true)(hd:qak n dst=true)
  (h1:c=true→K .normal ⟨qdU dst (.tup []) env,hp,nx,n⟩) (h0:c=false→K (.pan d) ⟨env,hp,nx,n⟩):qap P (.call {callee:=.value (.func g),args:=args.toArray,argTypes:=ts}) id dst ⟨env,hp,nx,n⟩ K:=by
 show qf1 P (.clo (.func g) [] []) _ id dst _ K
 cases c with
 |true=>exact⟨args',_,by simpa using hp',hc,.inr rfl,zL rfl,hd,h1 rfl⟩
 |false=>exact⟨args',_,by simpa using hp',hc,.inr hs,h0 rfl⟩
theorem qer{args:List Operand}{dst:Option Tmp}{ts:Array TypeId}{g:FuncId}{args':List D}(hp':qbX (lkH hp) 64 (args.map (qac env))=some args')(hc:Contract P g args' (.ret (.tup [])))(hd:qak n dst=true)
  (h0:K .normal ⟨qdU dst (.tup []) env,hp,nx,n⟩):qap P (.call {callee:=.value (.func g),args:=args.toArray,argTypes:=ts}) id dst ⟨env,hp,nx,n⟩ K:=by
 show qf1 P (.clo (.func g) [] []) _ id dst _ K
 exact⟨args',_,by simpa using hp',hc,.inr rfl,zL rfl,hd,h0⟩
theorem qlg{args:List Operand}{dst:Option Tmp}{ts:Array TypeId}{g:FuncId}{args':List D}{d:D}(hp':qbX (lkH hp) 64 (args.map (qac env))=some args')(hc:Contract P g args' (.pan d))(hs:qmc d=true)
  (h0:K (.pan d) ⟨env,hp,nx,n⟩):qap P (.call {callee:=.value (.func g),args:=args.toArray,argTypes:=ts}) id dst ⟨env,hp,nx,n⟩ K:=by
 show qf1 P (.clo (.func g) [] []) _ id dst _ K
 exact⟨args',_,by simpa using hp',hc,.inr hs,h0⟩
theorem qaW{all rest:List Oper}{d:D}{st:St}(h:K (.pan d) st):qA9 P all rest id K (.pan d) st:=h
theorem qbQ{d:D}{st:St}{i:Nat}(h:K (.pan d) st):qea i K (.pan d) st:=h
theorem qbu{d:D}{st:St}{f:St→Prop}(h:K (.pan d) st):qo6 f K (.pan d) st:=h
theorem qb2{d:D}{st:St}{rv:List ResultVar}{d':D}(he:d'=d):qg3 P rv (.pan d') (.pan d) st:=by
 subst he;rfl
theorem qzF{x:Operand}{t:TypeId}{d:D}{dst:Option Tmp}(h:qac env x=.iface t d)(hp':qmc (.iface t d)=true)(hk:K (.pan (.iface t d)) ⟨env,hp,nx,n⟩):qap P (.panic x) id dst ⟨env,hp,nx,n⟩ K:=by
 unfold qap
 simp only[op0,op1,qmb]
 exact⟨t,d,h,hp',hk⟩
theorem qCE{x:Operand}{t:TypeId}{d:D}{u:TypeDesc}(hu:P.underlying t=some u)(hne:(match u with|.interface _=>false|_=>true)=true)(h:qac env x=d)(hd:qak n (some s)=true)(hk:K .normal ⟨(s,.iface t d)::env,hp,nx,n⟩):qap P (.makeInterface t x) id (some s) ⟨env,hp,nx,n⟩ K:=by
 subst h
 have e:op0 P (qac env) (lkH hp) (.makeInterface t x)=some (.iface t (qac env x)):=by
  simp only[op0,qBZ,hu]
  cases u<;>first|rfl|cases hne
 unfold qap
 simp only[e]
 exact⟨hd,hk⟩
theorem qao{x:Operand}{cs:List D}(h:qac env x=.ptr cs)(hd:qak n (some s)=true)(hk:K .normal ⟨(s,.ptr cs)::env,hp,nx,n⟩):qap P (.nilCheck x) id (some s) ⟨env,hp,nx,n⟩ K:=by
 rw[qh8];exact⟨.ptr cs,by rw[h];rfl,hd,hk⟩
theorem qb9{x:Operand}{b r o:Nat}{blk:Blk}(h:qac env x=.op b r o)(hb:lkH hp b=some blk)(hd:qak n (some s)=true)(hk:K .normal ⟨(s,.op b r o)::env,hp,nx,n⟩):qap P (.nilCheck x) id (some s) ⟨env,hp,nx,n⟩ K:=by
 rw[qh8];exact⟨.op b r o,by rw[h];simp[qga,hb],hd,hk⟩
def qzG:TypeDesc→Bool
 |.interface _=>false
 |_=>true
theorem qq7{x:Operand}{t:TypeId}{cs:List D}{u:TypeDesc}(hu:P.underlying t=some u)(hne:qzG u=true)(h:qac env x=.agg cs)(hd:qak n (some s)=true)(hk:K .normal ⟨(s,.iface t (.agg cs))::env,hp,nx,n⟩):qap P (.makeInterface t x) id (some s) ⟨env,hp,nx,n⟩ K:=
 qCE hu (by cases u<;>first|rfl|cases hne) h hd hk
def qES(E:St→St→Prop)(P:Program)(all rest:List Oper)(id:Nat)(K:X→St→Prop):X→St→Prop
 |.normal,st=>qh3 E P all rest id st K
 |x,st=>K x st
theorem qss{E:St→St→Prop}{all rest:List Oper}{dst:Option Tmp}{op:Op}{ty:TypeId}{pos:String}{af:Array Edge}(h:qap P op id dst ⟨env,hp,nx,n⟩ (qES E P all rest (id+32) K)):
  qh3 E P all ({dst:=dst,op:=op,type:=ty,pos:=pos,after:=af,guard:=none}::rest) id ⟨env,hp,nx,n⟩ K:=by
 refine .inl ⟨rfl,qcU (fun x st hx=>?_) h⟩
 cases x<;>exact hx
theorem qkd{E:St→St→Prop}{all rest:List Oper}(h:qh3 E P all rest id ⟨env,hp,nx,n⟩ K):qES E P all rest id K .normal ⟨env,hp,nx,n⟩:=h
theorem qst{E:St→St→Prop}{all rest:List Oper}{o:Oper}(s1:St)(he:E ⟨env,hp,id,n⟩ s1)(h:qaP P all (o::rest) s1.nx s1 K):qh3 E P all (o::rest) id ⟨env,hp,nx,n⟩ K:=.inr ⟨s1,he,h⟩
theorem qm4{e:Nat}{z:D}{t:TypeId}{x1 x2 x3 x4 x5 x6:Operand}{f1 f2 f3 f4 f5 f6:Fn}{c1 c2 c3 c4 c5 c6:List D}[hs:TSlice P t e 1][hz:TZero P e z](h1:qac env x1=.clo f1 [] c1)(h2:qac env x2=.clo f2 [] c2)(h3:qac env x3=.clo f3 [] c3)(h4:qac env x4=.clo f4 [] c4)(h5:qac env x5=.clo f5 [] c5)(h6:qac env x6=.clo f6 [] c6)(hzl:(qai z).length=1)(hd:qak n (some s)=true)
  (hk:K .normal ⟨(s,.os id 0 6)::env,(id,⟨1,false,[[.clo f1 [] c1],[.clo f2 [] c2],[.clo f3 [] c3],[.clo f4 [] c4],[.clo f5 [] c5],[.clo f6 [] c6]]⟩)::hp,nx,n⟩):qap P (.buildSlice t 6 #[(0,x1),(1,x2),(2,x3),(3,x4),(4,x5),(5,x6)]) id (some s) ⟨env,hp,nx,n⟩ K:=by
 have ho:op1 P (qac env) (.buildSlice t 6 #[(0,x1),(1,x2),(2,x3),(3,x4),(4,x5),(5,x6)])=some (false,⟨1,false,[[.clo f1 [] c1],[.clo f2 [] c2],[.clo f3 [] c3],[.clo f4 [] c4],[.clo f5 [] c5],[.clo f6 [] c6]]⟩):=by
  simp only[op1,hs.u,hz.h,Option.bind_some]
  rw[if_neg (by decide),if_pos ⟨hz.k,by rw[hzl,hs.c],by rw[hs.c];decide,by rw[hs.c];decide⟩]
  simp only[List.map_cons,List.map_nil,h1,h2,h3,h4,h5,h6,hs.c]
  rfl
 unfold qap
 simp only[op0,ho]
 exact⟨hd,hk⟩
theorem qcE{f:Operand}{ts:Array TypeId}{g:FuncId}{ys args':List D}{k:IntKind}{q:Int}(hf:qac env f=.clo (.func g) [] ys)(hp':qbX (lkH hp) 64 ys=some args')(hc:Contract P g args' (.ret (.int k q)))(hd:qak n (some s)=true)
  (h:K .normal ⟨(s,.int k q)::env,hp,nx,n⟩):qap P (.call {callee:=.value f,args:= #[],argTypes:=ts}) id (some s) ⟨env,hp,nx,n⟩ K:=
 qi7 (args:=[]) (xs:=[]) (ys:=ys) hf (by simpa using hp') hc (Bool.or_true _) (zL rfl) hd h
theorem qbU(f:Nat→Option Blk):qbd [] f=f:=by funext b;simp[qbd]
theorem qif{rv:ResultVar}{d r:D}(h:qb7 P ⟨env,hp,nx,n⟩ rv=some d)(p:pur (lkH hp) 64 d=some r)(hr:qjE r=true):qg3 P [rv] (.ret r) .ret ⟨env,hp,nx,n⟩:=by
 refine⟨_,rfl,.inl ⟨[.pure],[d],[r],by simp[h],by simp[qbC],⟨?_,trivial⟩,rfl,fun _=>by simp[hr]⟩⟩
 show pur (qbd [] (lkH hp)) 64 d=some r
 rw[qbU];exact p
theorem qcF{rv rv2:ResultVar}{d r d2 r2:D}(h:qb7 P ⟨env,hp,nx,n⟩ rv=some d)(h2:qb7 P ⟨env,hp,nx,n⟩ rv2=some d2)(p:pur (lkH hp) 64 d=some r)(p2:pur (lkH hp) 64 d2=some r2):qg3 P [rv,rv2] (.ret (.tup [r,r2])) .ret ⟨env,hp,nx,n⟩:=by
 refine⟨_,rfl,.inl ⟨[.pure,.pure],[d,d2],[r,r2],by simp[h,h2],by simp[qbC],⟨?_,?_,trivial⟩,rfl,fun hh=>by simp at hh⟩⟩
 ·show pur (qbd [] (lkH hp)) 64 d=some r
  rw[qbU];exact p
 ·show pur (qbd [] (lkH hp)) 64 d2=some r2
  rw[qbU];exact p2
theorem qdE{f:FuncId}{ds:List D}{r r':D}(hp':pur (lkH (qaO 0 r).2) 64 (qaO 0 r).1=some r')(ha:∀m,qaO m r'=(r',[]))(hc:Contract P f ds (.ret r)):Contract P f ds (.ret r'):=by
 refine⟨hc.1,fun S w args hS hargs=>(hc.2 S w args hS hargs).mono ?_⟩
 rintro e w' ⟨hb,Q,hQ,v,rfl,hr⟩
 obtain⟨ow,hm,hv,hpend⟩:=hr 0
 let Z:Nat→Prop:=fun g=>Q g∨∃b o k sz,ow b=.lies g o k sz
 have hz:∀g,Q g→Z g:=fun g h=>.inl h
 have hv':RepP w' Z v r':=qmB hm hz 64 v _ _ hv (.inr fun b g o k sz h=>.inr ⟨b,o,k,sz,h⟩) hp'
 have hZ:∀g,Z g→g<w'.heap.size∧(S g∨w.heap.size≤g):=fun g hg=>by
  rcases hg with hg|⟨b,o,k,sz,h⟩
  ·exact hQ g hg
  ·exact⟨hm.at_lt h,.inr (hm.own b g o k sz h).1⟩
 refine⟨hb,Z,hZ,v,rfl,fun m=>⟨fun _=>.pending,?_,?_,fun _ _=>rfl⟩⟩
 ·rw[ha m]
  exact⟨fun b blk hb=>by simp[lkH]at hb,fun b _=>.inr rfl,fun b b' g h=>h.elim,fun b g h=>h.elim,fun g hg=>(hZ g hg).1⟩
 ·rw[ha m]
  exact .pure _ _ hv'
theorem qET{k:Nat}{rows:List (List D)}(hf:qan rows=true):pur (lkH (qaO 0 (.fr k rows)).2) 64 (qaO 0 (.fr k rows)).1=some (.sl rows):=by
 simp[qaO,adE,adC,pur,lkH,hf]
theorem qq8{α:Type}{f:α→List D}{k:Nat}{l:List α}{g:FuncId}{ds:List D}(hf:qjg f k)(hc:Contract P g ds (.ret (.fr k (l.map f)))):Contract P g ds (.ret (.sl (l.map f))):=
 qdE (qET (qeC hf l)) (fun _=>rfl) hc
theorem qsu{α:Type}{f:α→List D}{k:Nat}{l:List α}{g:FuncId}{ds:List D}{kk:IntKind}{e:Int}(hf:qjg f k)(hc:Contract P g ds (.ret (.tup [.fr k (l.map f),.int kk e]))):Contract P g ds (.ret (.tup [.sl (l.map f),.int kk e])):=by
 refine qdE ?_ (fun _=>rfl) hc
 have hfl:=qeC hf l
 have ht:(l.map f).take l.length=l.map f:=List.take_of_length_le (by simp)
 simp[qaO,adT,adE,adC,pur,qbX,lkH,hfl,ht]
theorem qEU{α:Type}{f:α→List D}{k:Nat}{l:List α}{g:FuncId}{ds:List D}{a1 a2 a3 a4 a5:Int}{k1 k2 k3 k4 k5:IntKind}(hf:qjg f k)(hc:Contract P g ds (.ret (.agg [.int k1 a1,.int k2 a2,.int k3 a3,.int k4 a4,.int k5 a5,.fr k (l.map f)]))):
  Contract P g ds (.ret (.agg [.int k1 a1,.int k2 a2,.int k3 a3,.int k4 a4,.int k5 a5,.sl (l.map f)])):=by
 refine qdE ?_ (fun _=>rfl) hc
 have hfl:=qeC hf l
 have ht:(l.map f).take l.length=l.map f:=List.take_of_length_le (by simp)
 simp[qaO,adE,adL,adC,pur,qbX,lkH,hfl,ht]
theorem qEV{α:Type}{f:α→List D}{k:Nat}{l:List α}{g:FuncId}{ds:List D}{a1 a2 a3 a4 a5 e:Int}{k1 k2 k3 k4 k5 k6:IntKind}(hf:qjg f k)(hc:Contract P g ds (.ret (.tup [.agg [.int k1 a1,.int k2 a2,.int k3 a3,.int k4 a4,.int k5 a5,.fr k (l.map f)],.int k6 e]))):
  Contract P g ds (.ret (.tup [.agg [.int k1 a1,.int k2 a2,.int k3 a3,.int k4 a4,.int k5 a5,.sl (l.map f)],.int k6 e])):=by
 refine qdE ?_ (fun _=>rfl) hc
 have hfl:=qeC hf l
 have ht:(l.map f).take l.length=l.map f:=List.take_of_length_le (by simp)
 simp[qaO,adT,adE,adL,adC,pur,qbX,lkH,hfl,ht]
theorem qBi{α:Type}{f:α→List D}{hq:Nat→Option Blk}{b k len m:Nat}{l:List α}{a1 a2 a3 a4 a5:Int}{k1 k2 k3 k4 k5:IntKind}(hb:hq b=some ⟨k,true,l.map f⟩)(hlen:len=l.length):pur hq (m+8) (.agg [.int k1 a1,.int k2 a2,.int k3 a3,.int k4 a4,.int k5 a5,.os b 0 len])=some (.agg [.int k1 a1,.int k2 a2,.int k3 a3,.int k4 a4,.int k5 a5,.sl (l.map f)]):=by
 subst hlen
 have:(l.map f).take l.length=l.map f:=List.take_of_length_le (by simp)
 simp[pur,qbX,hb,this]
theorem qsv{a:Int}{kk:IntKind}(h1:qac env x=.int .u64 a)(h2:qac env y=.int kk 1)(hd:qak n (some s)=true)(hr:0≤a)(hk:K .normal ⟨(s,(.int .u64 (a/2)))::env,hp,nx,n⟩):
  qap P (.binOp .shr t x y t') id (some s) ⟨env,hp,nx,n⟩ K:=by
 refine qaz ?_ hd hk
 simp only[h1,h2,qoG]
 rw[if_pos (by decide)]
 have e:min (1:Int).toNat IntKind.u64.bits=1:=by decide
 rw[e,Int.fdiv_eq_ediv_of_nonneg _ (by decide)]
 rfl
theorem qsw{x:Operand}{k0:IntKind}{a:Int}[h0:TInt P t k0][h1:TInt P t' .i64](h:qac env x=.int .u64 a)(hd:qak n (some s)=true)(hr:0≤a∧a≤9223372036854775807)(hk:K .normal ⟨(s,.int .i64 a)::env,hp,nx,n⟩):qap P (.convert t t' x) id (some s) ⟨env,hp,nx,n⟩ K:=by
 rw[qdX]
 refine⟨.int .i64 a,?_,hd,hk⟩
 rw[h]
 simp only[qnu,h1.h,h0.h,Option.isSome_some,if_true]
 rw[qsr (by omega)]
end
section
variable {P:Program}{K:X→St→Prop}{env:Env}{hp:Hp}{nx n id:Nat}
theorem qzH{st:St}:Fin P [] st (.tup []):=.inl ⟨[],[],[],rfl,by simp[qbC],trivial,rfl,fun h=>by simp at h⟩
theorem qke{st:St}:qg3 P [] (.ret (.tup [])) .normal st:=qdB qzH
theorem qn6{f:Operand}{args:List Operand}{s:Tmp}{ts:Array TypeId}{g:FuncId}{args':List D}{k:IntKind}{q:Int}(hf:qac env f=.clo (.func g) [] [])(hp':qbX (lkH hp) 64 (args.map (qac env))=some args')(hc:Contract P g args' (.ret (.int k q)))(hd:qak n (some s)=true)
  (h:K .normal ⟨(s,.int k q)::env,hp,nx,n⟩):qap P (.call {callee:=.value f,args:=args.toArray,argTypes:=ts}) id (some s) ⟨env,hp,nx,n⟩ K:=
 qi7 (xs:=[]) (ys:=[]) hf (by simpa using hp') hc (Bool.or_true _) (zL rfl) hd h
theorem qsx{t t':TypeId}{x:Operand}{s:Tmp}{k0:IntKind}{a:Int}[h0:TInt P t k0][h1:TInt P t' .u64](h:qac env x=.int k0 a)(hd:qak n (some s)=true)(hr:0≤a∧a≤9223372036854775807)(hk:K .normal ⟨(s,.int .u64 a)::env,hp,nx,n⟩):qap P (.convert t t' x) id (some s) ⟨env,hp,nx,n⟩ K:=by
 rw[qdX]
 refine⟨.int .u64 a,?_,hd,hk⟩
 rw[h]
 simp only[qnu,h1.h,h0.h,Option.isSome_some,if_true]
 rw[show IntKind.wrap .u64 a=a by simp only[IntKind.wrap,IntKind.bits,IntKind.signed];first|omega|(simp;omega)]
end
section
variable {P:Program}{K:X→St→Prop}{env:Env}{hp:Hp}{nx n id:Nat}
end
section
variable {P:Program}{K:X→St→Prop}{env:Env}{hp:Hp}{nx n id:Nat}{t t':TypeId}{x y:Operand}{s:Tmp}
end
open Go
set_option linter.unusedSimpArgs false
section
variable {P:Program}{K:X→St→Prop}{env:Env}{hp:Hp}{nx n id:Nat}{s:Tmp}{x y:Operand}{t t':TypeId}
theorem qdF(h:qac env x=.nilptr)(hd:qak n (some s)=true)(hk:K .normal ⟨(s,.nilptr)::env,hp,nx,n⟩):qap P (.move x) id (some s) ⟨env,hp,nx,n⟩ K:=qd5 h hd hk
theorem qhy{α:Type}{f:α→List D}{e k b b2 len:Nat}{l:List α}{a:α}{fl2:Bool}[hs:TSlice P t e k](hf:qjg f k)(h1:qac env x=.os b 0 len)(h2:qac env y=.os b2 0 1)(hb:lkH hp b=some ⟨k,true,l.map f⟩)(hlen:l.length=len)(hb2:lkH hp b2=some ⟨k,fl2,[f a]⟩)
  (hc1:((f a).all qhk)=true) (hz:qjB P e=true) (hby:Nat.ble (P.bytesOf e) 4096=true) (hn:len≤1000000000) (hd:qak n (some s)=true)
  (hk:K .normal ⟨(s,.os b 0 (len+1))::qfZ b env,(b,⟨k,true,(l++[a]).map f⟩)::qg9 b hp,nx,n⟩):qap P (.call {callee:=.builtin .append,args:= #[x,y],argTypes:= #[t,t]}) id (some s) ⟨env,hp,nx,n⟩ K:=by
 have hby':P.bytesOf e≤4096:=Nat.le_of_ble_eq_true hby
 have hap:qcN P (lkH hp) t (qac env x) (qac env y)=some (some b,⟨k,true,(l++[a]).map f⟩):=by
  have hx:qaY (lkH hp) (.os b2 0 1)=some [f a]:=by simp[qaY,hb2]
  have ho:qaY (lkH hp) (.os b 0 len)=some (l.map f):=by
   simp only[qaY,hb,Option.bind_some]
   rw[if_pos (by simp[hlen])]
   rw[List.drop_zero,List.take_of_length_le (by simp[hlen])]
  unfold qcN
  rw[hs.u,h1,h2]
  simp only[hx,ho,Option.bind_some]
  have hmul:(len+1)*P.bytesOf e≤140737488355328:=by
   have:=Nat.mul_le_mul (show len+1≤1000000001 by omega) hby'
   omega
  rw[if_pos]
  ·rw[hb]
   simp only[Option.bind_some]
   rw[if_pos]
   ·have hft:qan [f a]=true:=by
     have:=qeC hf [a]
     simpa using this
    simp[hs.c,hft]
   ·refine⟨.inl hs.c.symm,fun r hr c hc=>?_⟩
    have:∃a',r=f a':=by
     simp only[List.mem_append,List.mem_map,List.mem_singleton]at hr
     rcases hr with⟨a',_,rfl⟩|rfl
     ·exact⟨a',rfl⟩
     ·exact⟨a,rfl⟩
    obtain⟨a',rfl⟩:=this
    exact qoO (List.all_eq_true.1 (hf a').2.1 c hc)
  ·refine⟨by rw[hs.c];exact hs.p,fun r hr=>?_,fun r hr c hc=>?_,by simp[hlen];exact hmul,by simp[hlen];omega,hz,by simp[kOK,hb2,hs.c]⟩
   ·simp only[List.mem_singleton]at hr
    rw[hr,(hf a).1,hs.c]
   ·simp only[List.mem_singleton]at hr
    subst hr
    exact List.all_eq_true.1 hc1 c hc
 refine qgn hap hd ?_
 have e:(⟨k,true,(l++[a]).map f⟩:Blk).rows.length=len+1:=by simp[hlen]
 rw[e]
 exact hk
theorem qdG{f:Operand}{ts:Array TypeId}{g:FuncId}{ys:List D}{d1 d2:D}{k:IntKind}{q:Int}(hf:qac env f=.clo (.func g) [] ys)(hx:pur (lkH hp) 63 (qac env x)=some d1)(hy:pur (lkH hp) 62 (qac env y)=some d2)(hst:qmg ys)(hc:Contract P g (d1::d2::ys) (.ret (.int k q)))(hd:qak n (some s)=true)
  (h:K .normal ⟨(s,.int k q)::env,hp,nx,n⟩):qap P (.call {callee:=.value f,args:= #[x,y],argTypes:=ts}) id (some s) ⟨env,hp,nx,n⟩ K:=by
 refine qi7 (args:=[x,y]) hf ?_ hc (Bool.or_true _) (zL rfl) hd h
 simp only[List.map_cons,List.map_nil,List.nil_append,List.cons_append,List.append_nil,qbX,hx,hy,Option.bind_some]
 rw[hst (lkH hp) 46]
 rfl
theorem qgs{α:Type}{f:α→List D}{e k b2:Nat}{a:α}{fl2:Bool}[hs:TSlice P t e k](hf:qjg f k)(h1:qac env x=.nilsl)(h2:qac env y=.os b2 0 1)(hb2:lkH hp b2=some ⟨k,fl2,[f a]⟩)
  (hc1:((f a).all qhk)=true) (hz:qjB P e=true) (hby:Nat.ble (P.bytesOf e) 4096=true):qcN P (lkH hp) t (qac env x) (qac env y)=some (none,⟨k,true,[a].map f⟩):=by
 have hby':P.bytesOf e≤4096:=Nat.le_of_ble_eq_true hby
 have hx:qaY (lkH hp) (.os b2 0 1)=some [f a]:=by simp[qaY,hb2]
 unfold qcN
 rw[hs.u,h1,h2]
 have ho:qaY (lkH hp) .nilsl=some []:=rfl
 simp only[hx,ho,Option.bind_some]
 have hft:qan [f a]=true:=by
  have:=qeC hf [a]
  simpa using this
 rw[if_pos]
 ·simp[hs.c,hft]
 ·refine⟨by rw[hs.c];exact hs.p,fun r hr=>?_,fun r hr c hc=>?_,by simp;omega,by simp,hz,by simp[kOK,hb2,hs.c]⟩
  ·simp only[List.mem_singleton]at hr
   rw[hr,(hf a).1,hs.c]
  ·simp only[List.mem_singleton]at hr
   subst hr
   exact List.all_eq_true.1 hc1 c hc
end
end Go.Pv

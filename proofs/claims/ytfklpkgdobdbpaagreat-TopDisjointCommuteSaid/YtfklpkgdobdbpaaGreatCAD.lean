import Derived.KernelRfl
import Derived.Test.YtfklpkgdobdbpaaGreatCAC
/- Part of the proofs over YtfklpkgdobdbpaaGreat: PyK, PzA. -/
set_option linter.unusedVariables false
set_option linter.unusedSimpArgs false
set_option linter.unnecessarySimpa false
open Go
set_option linter.unusedSimpArgs false
namespace Go.Pv
section
variable {P:Program}{K:X→St→Prop}{env:Env}{hp:Hp}{nx n id:Nat}{s:Tmp}{x y:Operand}{t t':TypeId}
theorem qeW(h:qab env x=.nilptr)(hd:qai n (some s)=true)(hk:K .normal ⟨(s,.nilptr)::env,hp,nx,n⟩):qan P (.move x) id (some s) ⟨env,hp,nx,n⟩ K:=qdO h hd hk
theorem qg9{α:Type}{f:α→List D}{e k b b2 len:Nat}{l:List α}{a:α}{fl2:Bool}[hs:TSlice P t e k](hf:qiH f k)(h1:qab env x=.os b 0 len)(h2:qab env y=.os b2 0 1)(hb:lkH hp b=some ⟨k,true,l.map f⟩)(hlen:l.length=len)(hb2:lkH hp b2=some ⟨k,fl2,[f a]⟩)
  (hc1:((f a).all qgU)=true) (hz:qiY P e=true) (hby:Nat.ble (P.bytesOf e) 4096=true) (hn:len≤1000000000) (hd:qai n (some s)=true)
  (hk:K .normal ⟨(s,.os b 0 (len+1))::qft b env,(b,⟨k,true,(l++[a]).map f⟩)::qgG b hp,nx,n⟩):qan P (.call {callee:=.builtin .append,args:= #[x,y],argTypes:= #[t,t]}) id (some s) ⟨env,hp,nx,n⟩ K:=by
 have hby':P.bytesOf e≤4096:=Nat.le_of_ble_eq_true hby
 have hap:qcw P (lkH hp) t (qab env x) (qab env y)=some (some b,⟨k,true,(l++[a]).map f⟩):=by
  have hx:qaR (lkH hp) (.os b2 0 1)=some [f a]:=by simp[qaR,hb2]
  have ho:qaR (lkH hp) (.os b 0 len)=some (l.map f):=by
   simp only[qaR,hb,Option.bind_some]
   rw[if_pos (by simp[hlen])]
   rw[List.drop_zero,List.take_of_length_le (by simp[hlen])]
  unfold qcw
  rw[hs.u,h1,h2]
  simp only[hx,ho,Option.bind_some]
  have hmul:(len+1)*P.bytesOf e≤140737488355328:=by
   have:=Nat.mul_le_mul (show len+1≤1000000001 by omega) hby'
   omega
  rw[if_pos]
  ·rw[hb]
   simp only[Option.bind_some]
   rw[if_pos]
   ·have hft:qal [f a]=true:=by
     have:=qeV hf [a]
     simpa using this
    simp[hs.c,hft]
   ·refine⟨.inl hs.c.symm,fun r hr c hc=>?_⟩
    have:∃a',r=f a':=by
     simp only[List.mem_append,List.mem_map,List.mem_singleton]at hr
     rcases hr with⟨a',_,rfl⟩|rfl
     ·exact⟨a',rfl⟩
     ·exact⟨a,rfl⟩
    obtain⟨a',rfl⟩:=this
    exact qnJ (List.all_eq_true.1 (hf a').2.1 c hc)
  ·refine⟨by rw[hs.c];exact hs.p,fun r hr=>?_,fun r hr c hc=>?_,by simp[hlen];exact hmul,by simp[hlen];omega,hz,by simp[kOK,hb2,hs.c]⟩
   ·simp only[List.mem_singleton]at hr
    rw[hr,(hf a).1,hs.c]
   ·simp only[List.mem_singleton]at hr
    subst hr
    exact List.all_eq_true.1 hc1 c hc
 refine qfT hap hd ?_
 have e:(⟨k,true,(l++[a]).map f⟩:Blk).rows.length=len+1:=by simp[hlen]
 rw[e]
 exact hk
theorem qdo{f:Operand}{ts:Array TypeId}{g:FuncId}{ys:List D}{d1 d2:D}{k:IntKind}{q:Int}(hf:qab env f=.clo (.func g) [] ys)(hx:pur (lkH hp) 63 (qab env x)=some d1)(hy:pur (lkH hp) 62 (qab env y)=some d2)(hst:qlk ys)(hc:Contract P g (d1::d2::ys) (.ret (.int k q)))(hd:qai n (some s)=true)
  (h:K .normal ⟨(s,.int k q)::env,hp,nx,n⟩):qan P (.call {callee:=.value f,args:= #[x,y],argTypes:=ts}) id (some s) ⟨env,hp,nx,n⟩ K:=by
 refine qiy (args:=[x,y]) hf ?_ hc (Bool.or_true _) (zL rfl) hd h
 simp only[List.map_cons,List.map_nil,List.nil_append,List.cons_append,List.append_nil,qbQ,hx,hy,Option.bind_some]
 rw[hst (lkH hp) 46]
 rfl
theorem qfZ{α:Type}{f:α→List D}{e k b2:Nat}{a:α}{fl2:Bool}[hs:TSlice P t e k](hf:qiH f k)(h1:qab env x=.nilsl)(h2:qab env y=.os b2 0 1)(hb2:lkH hp b2=some ⟨k,fl2,[f a]⟩)
  (hc1:((f a).all qgU)=true) (hz:qiY P e=true) (hby:Nat.ble (P.bytesOf e) 4096=true):qcw P (lkH hp) t (qab env x) (qab env y)=some (none,⟨k,true,[a].map f⟩):=by
 have hby':P.bytesOf e≤4096:=Nat.le_of_ble_eq_true hby
 have hx:qaR (lkH hp) (.os b2 0 1)=some [f a]:=by simp[qaR,hb2]
 unfold qcw
 rw[hs.u,h1,h2]
 have ho:qaR (lkH hp) .nilsl=some []:=rfl
 simp only[hx,ho,Option.bind_some]
 have hft:qal [f a]=true:=by
  have:=qeV hf [a]
  simpa using this
 rw[if_pos]
 ·simp[hs.c,hft]
 ·refine⟨by rw[hs.c];exact hs.p,fun r hr=>?_,fun r hr c hc=>?_,by simp;omega,by simp,hz,by simp[kOK,hb2,hs.c]⟩
  ·simp only[List.mem_singleton]at hr
   rw[hr,(hf a).1,hs.c]
  ·simp only[List.mem_singleton]at hr
   subst hr
   exact List.all_eq_true.1 hc1 c hc
end
theorem zB:(∀(p:Prop) [Decidable p],(decide p=true)=p)∧(∀(p:Prop) [Decidable p],(decide p=false)=¬p)∧(∀b:Bool,((!b)=true)=(b=false))∧(∀b:Bool,((!b)=false)=(b=true))∧((!true)=false)∧((!false)=true):=
 ⟨fun p _=>by simp,fun p _=>by simp,fun b=>by simp,fun b=>by simp,rfl,rfl⟩
structure ZB(q:Prop):Prop where
 o:q
theorem zT{P:Program}{f:FuncId}{fn:Func}{c:Code}{ds:List D}{out:Outc}{n:Nat}{rv:Array ResultVar}(hmix:P.follows .mixedOrders=true)(hf:P.funcs[f]? =some fn)(hn:fn.ntmps=n)(hr:fn.results=rv)(hb:fn.body=some c)(hname:(fn.name== "runtime.NumGoroutine")=false)
  (hl:Nat.ble ds.length n=true) (h:ev P c (qg0 P rv.toList out) ⟨qac 0 ds,[],0,n⟩):Contract P f ds out:=by
 subst hn hr
 exact qkd hmix hf hb hname (Nat.le_of_ble_eq_true hl) h
theorem zA1{p q:Prop}(h:q)(f:ZB q→p:=by
 intro k
 (first
 |(with_reducible apply qEZ)
 |(with_reducible apply qAd)
 |((with_reducible (show qan _ _ _ _ _ _));first
  |((with_reducible (show qan _ (.move _) _ _ _ _));first|((with_reducible apply qum);rfl;rfl)|((with_reducible apply qsB);rfl;rfl)|((with_reducible apply qxp);rfl;rfl)|((with_reducible apply qxq);rfl;rfl)|((with_reducible apply qpH);rfl;rfl)|((with_reducible apply quq);rfl;rfl)|((with_reducible apply qxr);rfl;rfl)|((with_reducible apply qun);rfl;rfl)|((with_reducible apply qup);rfl;rfl)|((with_reducible apply qur);rfl;rfl)|((with_reducible apply qxF);rfl;rfl))
  |((with_reducible (show qan _ (.assign _) _ _ _ _));first|(with_reducible apply qE0))
  |((with_reducible (show qan _ (.load _ _) _ _ _ _));first|((with_reducible apply qsX);rfl;rfl;rfl;rfl;rotate_left;assumption)|((with_reducible apply quM);rfl;rfl;rfl)|((with_reducible apply quK);rfl;rfl;rfl;rfl)|((with_reducible apply quL);rfl;rfl;rfl)|((with_reducible apply qul);rfl;rfl;rfl)|((with_reducible apply qff);rfl;rfl;rfl;rfl))
  |((with_reducible (show qan _ (.fieldAddr _ _ _) _ _ _ _));first|((with_reducible apply qoc);rfl;rfl)|((with_reducible apply qjo);rfl;rfl;rfl))
  |((with_reducible (show qan _ (.indexAddr _ _ _) _ _ _ _));first|((with_reducible apply qol);rfl;rfl;rfl;rfl;omega)|((with_reducible apply qfU);rfl;rfl;rfl;rfl;rfl;omega)|((with_reducible apply qfU);rfl;rfl;rfl;rfl;rfl;(exact⟨⟨by omega,by omega⟩,zL rfl⟩)))
  |((with_reducible (show qan _ (.binOp _ _ _ _ _) _ _ _ _));first|((with_reducible apply qCi);rfl;rfl;rfl;rfl)|((with_reducible apply qCj);rfl;rfl;rfl;omega)|((with_reducible apply qCk);rfl;rfl;rfl;omega)|((with_reducible apply qsV);rfl;rfl;rfl;rfl)|((with_reducible apply qsW);rfl;rfl;rfl;rfl)|((with_reducible apply qCl);rfl;rfl;rfl;omega)|((with_reducible apply qsK);rfl;rfl;rfl;omega)|((with_reducible apply qsJ);rfl;rfl;rfl;omega)|((with_reducible apply qsL);rfl;rfl;rfl;omega;omega)|((with_reducible apply qy7);rfl;rfl;rfl;omega))
  |((with_reducible (show qan _ (.call _) _ _ _ _));first|((with_reducible apply qCo);rfl;rfl)|((with_reducible apply qsz);rfl;rfl;rfl)|((with_reducible apply qsF);rfl;rfl)|((with_reducible apply qCy);rfl;rfl;rfl)|((with_reducible apply qCz);rfl;rfl;rfl)|((with_reducible apply qAq);rfl;rfl;rfl;rfl)|((with_reducible apply qAr);rfl;rfl;rfl;rfl))
  |((with_reducible (show qan _ (.store _ _ _) _ _ _ _));first|((with_reducible apply qux);rfl;rfl;rfl)|((with_reducible apply qsI);rfl;rfl;rfl)|((with_reducible apply quy);rfl;rfl;rfl)|((with_reducible apply quw);rfl;rfl;rfl;rfl;rfl;rfl;rfl)|((with_reducible apply qmK);rfl;rfl;rfl;rfl;rfl;rfl;(exact zL rfl);(first|exact zL rfl|omega);rfl;rfl))
  |((with_reducible (show qan _ (.index _ _ _) _ _ _ _));first|((with_reducible apply qoe);rfl;rfl;rfl;omega)|((with_reducible apply qon);rfl;rfl;rfl;omega;rfl))
  |((with_reducible (show qan _ (.slice _ _ _ _ _) _ _ _ _));first|((with_reducible apply qsG);rfl;rfl;(intro;rfl);rfl;omega)|((with_reducible apply qsH);rfl;rfl;(intro;rfl);rfl;omega)|((with_reducible apply qs1);rfl;rfl;rfl;rfl;rfl;omega))
  |((with_reducible (show qan _ (.unOp _ _ _) _ _ _ _));first|((with_reducible apply qCn);rfl;rfl)|((with_reducible apply qCm);rfl;rfl;omega))
  |((with_reducible (show qan _ (.extract _ _) _ _ _ _));first|((with_reducible apply qsA);rfl;rfl))
  |((with_reducible (show qan _ (.convert _ _ _) _ _ _ _));first|((with_reducible apply quP);rfl;rfl;omega)|((with_reducible apply qs3);rfl;rfl))
  |((with_reducible (show qan _ (.pick _ _ _) _ _ _ _));first|((with_reducible apply qAf);rfl;rfl;rfl))
  |((with_reducible (show qan _ (.build _ _) _ _ _ _));first|((with_reducible apply qu0);rfl;rfl;rfl;rfl;rfl;rfl)|((with_reducible apply qs6);rfl;rfl;rfl;rfl;rfl)|((with_reducible apply qsQ);rfl;rfl;rfl;rfl)|((with_reducible apply qsR);rfl;rfl;rfl;rfl)|((with_reducible apply qsT);rfl;rfl;rfl;rfl;rfl)|((with_reducible apply qsU);rfl;rfl;rfl;rfl;rfl)|((with_reducible apply qhF);rfl;rfl))
  |((with_reducible (show qan _ (.box _ _) _ _ _ _));first|((with_reducible apply quz);rfl;rfl)|((with_reducible apply quA);rfl;rfl)|((with_reducible apply qxy);rfl;rfl)|((with_reducible apply quB);rfl;rfl)|((with_reducible apply quC);rfl;rfl;(exact zL rfl);rfl;rfl)|((with_reducible apply qlO);rfl;rfl;rfl;(exact zL rfl);rfl;rfl))
  |((with_reducible (show qan _ (.alloc _) _ _ _ _));first|((with_reducible apply qxo);rfl;rfl;rfl))
  |((with_reducible (show qan _ (.makeFunc _ _ _) _ _ _ _));first|((with_reducible apply qCs);rfl;rfl)|((with_reducible apply qCt);rfl;rfl;rfl))
  |((with_reducible (show qan _ (.buildSlice _ _ _) _ _ _ _));first|((with_reducible apply qCv);rfl)|((with_reducible apply qsM);rfl;rfl;rfl)|((with_reducible apply qsN);rfl;rfl;rfl;rfl;rfl;rfl)|((with_reducible apply qsO);rfl;rfl;rfl;rfl)|((with_reducible apply qsP);rfl;rfl;rfl;rfl;rfl;rfl;rfl;rfl)|((with_reducible apply qsZ);rfl;rfl;rfl;rfl;rfl;rfl;rfl;rfl;rfl;rfl)|((with_reducible apply qs0);rfl;rfl;rfl;rfl;rfl;rfl;rfl;rfl;rfl;rfl;rfl;rfl)))
 |((with_reducible (show qaK _ _ _ _ _ _));first
  |(with_reducible apply qCh)
  |((with_reducible apply qCg);rfl;rfl)
  |((with_reducible apply qz9);rfl;rfl;rfl)
  |((with_reducible apply qAa);rfl;rfl)
  |((with_reducible apply qCp);rfl)
  |((with_reducible apply qpJ);rfl)
  |(with_reducible apply qsD)
  |((with_reducible apply qCq);rfl)
  |((with_reducible apply qpK);rfl)
  |(with_reducible apply qsE)
  |(with_reducible apply qAg)
  |(with_reducible apply qxs)
  |(with_reducible apply qAh)
  |(with_reducible apply qxt))
 |((with_reducible (show evG _ _ _ _ _));first
  |((with_reducible apply quh);rfl;rfl)
  |((with_reducible apply qui);rfl;rfl)
  |(with_reducible apply qy5)
  |(with_reducible apply qxm)
  |(with_reducible apply qxn)
  |(with_reducible apply qAe))
 |(with_reducible apply qpF)
 |(with_reducible apply qAi)
 |(with_reducible apply qpG)
 |(with_reducible apply quk)
 |(with_reducible apply qmI)
 |(with_reducible apply qlj)
 |((with_reducible apply qke);rfl)
 |(with_reducible apply qxv)
 |(with_reducible apply qob))
 exact k.o):p:=f ⟨h⟩
theorem zA{p q:Prop}(h:q)(f:ZB q→p:=by
 intro k
 refine zA1 ?_
 repeat'(refine zA1 ?_)
 exact k.o):p:=f ⟨h⟩
theorem zS{p q:Prop}(h:q)(f:ZB q→p:=by
 intro k
 first
 |(with_reducible apply qex)
 |(with_reducible apply qeh)
 |((with_reducible apply qxu);kernel_rfl;rfl)
 exact k.o):p:=f ⟨h⟩
theorem zQ{p q:Prop}(h:q)(f:ZB q→p:=by
 intro k
 (first|refine zS ?_|refine zA1 ?_)
 repeat'(first|refine zS ?_|refine zA1 ?_)
 exact k.o):p:=f ⟨h⟩
theorem zF{P:Program}{g:FuncId}{ds:List D}{o:Outc}{p q:Prop}(hc:Contract P g ds o)(h:q)(f:Contract P g ds o→ZB q→p:=by
 intro hc k
 (first
 |((with_reducible refine qaj ?_ hc ?_ ?_);rfl;rfl)
 |((with_reducible refine qad ?_ hc ?_ ?_);rfl;rfl)
 |((with_reducible refine qb2 ?_ hc ?_ ?_ ?_ ?_);rfl;rfl;(exact zL rfl);rfl)
 |((with_reducible refine qmX ?_ ?_ hc ?_ ?_ ?_ ?_);rfl;rfl;rfl;(exact zL rfl);rfl))
 exact k.o):p:=f hc ⟨h⟩
theorem zE{p q:Prop}(h:q)(f:ZB q→p:=by
 intro k
 (first
 |((with_reducible apply qAj);rfl)
 |((with_reducible apply qxw);rfl)
 |((with_reducible apply qAk);rfl)
 |((with_reducible apply qxx);rfl)
 |((with_reducible apply quv);rfl)
 |((with_reducible apply qCx);rfl;rfl;rfl;rfl;rfl;rfl)
 |((with_reducible apply qCw);rfl;rfl;rfl;rfl)
 |((with_reducible apply qAp);rfl;rfl)
 |((with_reducible apply qAo);rfl;rfl;rfl;rfl;rfl;rfl)
 |((with_reducible apply qAn);rfl;rfl;rfl;rfl)
 |((with_reducible apply qxB);rfl;rfl))
 exact k.o):p:=f ⟨h⟩
theorem zI{p q:Prop}(h:q)(f:ZB q→p:=by
 intro k
 with_reducible (show qan _ (.indexAddr _ _ _) _ _ _ _)
 first
 |((with_reducible apply qoj);rfl;rfl;(with_reducible rfl);(intro;rfl);rfl;omega)
 |((with_reducible apply qg3);rfl;rfl;rfl;(with_reducible rfl);rfl;rfl;omega)
 |((with_reducible apply qqR);rfl;rfl;(intro;rfl);rfl;omega)
 exact k.o):p:=f ⟨h⟩
theorem zC{p q r:Prop}(h1:q)(h2:r)(f:ZB q→ZB r→p:=by
 intro k1 k2
 with_reducible apply qz8
 rfl
 ·(intro h;simp only[h];first|(refine(fun _:True=>?_) k1.o;(try simp only[zB]at h);(try exact absurd trivial h);done)|((try simp only[zB]at h);revert h;exact k1.o))
 ·(intro h;simp only[h];first|(refine(fun _:True=>?_) k2.o;(try simp only[zB]at h);(try exact absurd trivial h);done)|((try simp only[zB]at h);revert h;exact k2.o))):p:=f ⟨h1⟩ ⟨h2⟩
theorem zG{p q r:Prop}(h1:q)(h2:r)(f:ZB q→ZB r→p:=by
 intro k1 k2
 with_reducible apply qmH
 rfl
 ·(intro h;simp only[h,Bool.not_true,Bool.not_false];(try with_reducible (refine⟨rfl,?_⟩));first|(refine(fun _:True=>?_) k1.o;(try simp only[zB]at h);(try exact absurd trivial h);done)|((try simp only[zB]at h);revert h;exact k1.o))
 ·(intro h;simp only[h,Bool.not_true,Bool.not_false];(try with_reducible (refine⟨rfl,?_⟩));first|(refine(fun _:True=>?_) k2.o;(try simp only[zB]at h);(try exact absurd trivial h);done)|((try simp only[zB]at h);revert h;exact k2.o))):p:=f ⟨h1⟩ ⟨h2⟩
end Go.Pv

import Derived.KernelRfl
import Derived.Test.YtfklpkgdobdbpaaGreatCAC
/- Part of the proofs over YtfklpkgdobdbpaaGreat: PzA. -/
set_option linter.unusedVariables false
set_option linter.unusedSimpArgs false
set_option linter.unnecessarySimpa false
namespace Go.Pv
theorem zB:(∀(p:Prop) [Decidable p],(decide p=true)=p)∧(∀(p:Prop) [Decidable p],(decide p=false)=¬p)∧(∀b:Bool,((!b)=true)=(b=false))∧(∀b:Bool,((!b)=false)=(b=true))∧((!true)=false)∧((!false)=true):=
 ⟨fun p _=>by simp,fun p _=>by simp,fun b=>by simp,fun b=>by simp,rfl,rfl⟩
structure ZB(q:Prop):Prop where
 o:q
theorem zT{P:Program}{f:FuncId}{fn:Func}{c:Code}{ds:List D}{out:Outc}{n:Nat}{rv:Array ResultVar}(hmix:P.follows .mixedOrders=true)(hf:P.funcs[f]? =some fn)(hn:fn.ntmps=n)(hr:fn.results=rv)(hb:fn.body=some c)(hname:(fn.name== "runtime.NumGoroutine")=false)
  (hl:Nat.ble ds.length n=true) (h:ev P c (qg3 P rv.toList out) ⟨qab 0 ds,[],0,n⟩):Contract P f ds out:=by
 subst hn hr
 exact qkW hmix hf hb hname (Nat.le_of_ble_eq_true hl) h
theorem zA1{p q:Prop}(h:q)(f:ZB q→p:=by
 intro k
 (first
 |(with_reducible apply qHc)
 |(with_reducible apply qCj)
 |((with_reducible (show qap _ _ _ _ _ _));first
  |((with_reducible (show qap _ (.move _) _ _ _ _));first|((with_reducible apply qwj);rfl;rfl)|((with_reducible apply qun);rfl;rfl)|((with_reducible apply qzk);rfl;rfl)|((with_reducible apply qzl);rfl;rfl)|((with_reducible apply qqU);rfl;rfl)|((with_reducible apply qwm);rfl;rfl)|((with_reducible apply qzm);rfl;rfl)|((with_reducible apply qwk);rfl;rfl)|((with_reducible apply qwl);rfl;rfl)|((with_reducible apply qwn);rfl;rfl)|((with_reducible apply qzz);rfl;rfl))
  |((with_reducible (show qap _ (.assign _) _ _ _ _));first|(with_reducible apply qHd))
  |((with_reducible (show qap _ (.load _ _) _ _ _ _));first|((with_reducible apply quK);rfl;rfl;rfl;rfl;rotate_left;assumption)|((with_reducible apply qwH);rfl;rfl;rfl)|((with_reducible apply qwF);rfl;rfl;rfl;rfl)|((with_reducible apply qwG);rfl;rfl;rfl)|((with_reducible apply qwi);rfl;rfl;rfl)|((with_reducible apply qfJ);rfl;rfl;rfl;rfl))
  |((with_reducible (show qap _ (.fieldAddr _ _ _) _ _ _ _));first|((with_reducible apply qpg);rfl;rfl)|((with_reducible apply qj3);rfl;rfl;rfl))
  |((with_reducible (show qap _ (.indexAddr _ _ _) _ _ _ _));first|((with_reducible apply qpq);rfl;rfl;rfl;rfl;omega)|((with_reducible apply qgo);rfl;rfl;rfl;rfl;rfl;omega)|((with_reducible apply qgo);rfl;rfl;rfl;rfl;rfl;(exact⟨⟨by omega,by omega⟩,zL rfl⟩)))
  |((with_reducible (show qap _ (.binOp _ _ _ _ _) _ _ _ _));first|((with_reducible apply qEs);rfl;rfl;rfl;rfl)|((with_reducible apply qEt);rfl;rfl;rfl;omega)|((with_reducible apply qEu);rfl;rfl;rfl;omega)|((with_reducible apply quI);rfl;rfl;rfl;rfl)|((with_reducible apply quJ);rfl;rfl;rfl;rfl)|((with_reducible apply qEv);rfl;rfl;rfl;omega)|((with_reducible apply qux);rfl;rfl;rfl;omega)|((with_reducible apply quw);rfl;rfl;rfl;omega)|((with_reducible apply quy);rfl;rfl;rfl;omega;omega)|((with_reducible apply qBc);rfl;rfl;rfl;omega))
  |((with_reducible (show qap _ (.call _) _ _ _ _));first|((with_reducible apply qEy);rfl;rfl)|((with_reducible apply qul);rfl;rfl;rfl)|((with_reducible apply qus);rfl;rfl)|((with_reducible apply qEI);rfl;rfl;rfl)|((with_reducible apply qEJ);rfl;rfl;rfl)|((with_reducible apply qCw);rfl;rfl;rfl;rfl)|((with_reducible apply qCx);rfl;rfl;rfl;rfl))
  |((with_reducible (show qap _ (.store _ _ _) _ _ _ _));first|((with_reducible apply qwt);rfl;rfl;rfl)|((with_reducible apply quv);rfl;rfl;rfl)|((with_reducible apply qwu);rfl;rfl;rfl)|((with_reducible apply qws);rfl;rfl;rfl;rfl;rfl;rfl;rfl)|((with_reducible apply qnS);rfl;rfl;rfl;rfl;rfl;rfl;(exact zL rfl);(first|exact zL rfl|omega);rfl;rfl))
  |((with_reducible (show qap _ (.index _ _ _) _ _ _ _));first|((with_reducible apply qpi);rfl;rfl;rfl;omega)|((with_reducible apply qps);rfl;rfl;rfl;omega;rfl))
  |((with_reducible (show qap _ (.slice _ _ _ _ _) _ _ _ _));first|((with_reducible apply qut);rfl;rfl;(intro;rfl);rfl;omega)|((with_reducible apply quu);rfl;rfl;(intro;rfl);rfl;omega)|((with_reducible apply quO);rfl;rfl;rfl;rfl;rfl;omega))
  |((with_reducible (show qap _ (.unOp _ _ _) _ _ _ _));first|((with_reducible apply qEx);rfl;rfl)|((with_reducible apply qEw);rfl;rfl;omega))
  |((with_reducible (show qap _ (.extract _ _) _ _ _ _));first|((with_reducible apply qum);rfl;rfl))
  |((with_reducible (show qap _ (.convert _ _ _) _ _ _ _));first|((with_reducible apply qwK);rfl;rfl;omega)|((with_reducible apply quQ);rfl;rfl))
  |((with_reducible (show qap _ (.pick _ _ _) _ _ _ _));first|((with_reducible apply qCl);rfl;rfl;rfl))
  |((with_reducible (show qap _ (.build _ _) _ _ _ _));first|((with_reducible apply qwV);rfl;rfl;rfl;rfl;rfl;rfl)|((with_reducible apply quU);rfl;rfl;rfl;rfl;rfl)|((with_reducible apply quD);rfl;rfl;rfl;rfl)|((with_reducible apply quE);rfl;rfl;rfl;rfl)|((with_reducible apply quG);rfl;rfl;rfl;rfl;rfl)|((with_reducible apply quH);rfl;rfl;rfl;rfl;rfl)|((with_reducible apply qh9);rfl;rfl))
  |((with_reducible (show qap _ (.box _ _) _ _ _ _));first|((with_reducible apply qwv);rfl;rfl)|((with_reducible apply qww);rfl;rfl)|((with_reducible apply qzs);rfl;rfl)|((with_reducible apply qwx);rfl;rfl)|((with_reducible apply qwy);rfl;rfl;(exact zL rfl);rfl;rfl)|((with_reducible apply qmR);rfl;rfl;rfl;(exact zL rfl);rfl;rfl))
  |((with_reducible (show qap _ (.alloc _) _ _ _ _));first|((with_reducible apply qzj);rfl;rfl;rfl))
  |((with_reducible (show qap _ (.makeFunc _ _ _) _ _ _ _));first|((with_reducible apply qEC);rfl;rfl)|((with_reducible apply qED);rfl;rfl;rfl))
  |((with_reducible (show qap _ (.buildSlice _ _ _) _ _ _ _));first|((with_reducible apply qEF);rfl)|((with_reducible apply quz);rfl;rfl;rfl)|((with_reducible apply quA);rfl;rfl;rfl;rfl;rfl;rfl)|((with_reducible apply quB);rfl;rfl;rfl;rfl)|((with_reducible apply quC);rfl;rfl;rfl;rfl;rfl;rfl;rfl;rfl)|((with_reducible apply quM);rfl;rfl;rfl;rfl;rfl;rfl;rfl;rfl;rfl;rfl)|((with_reducible apply quN);rfl;rfl;rfl;rfl;rfl;rfl;rfl;rfl;rfl;rfl;rfl;rfl)))
 |((with_reducible (show qaP _ _ _ _ _ _));first
  |(with_reducible apply qEr)
  |((with_reducible apply qEq);rfl;rfl)
  |((with_reducible apply qCg);rfl;rfl;rfl)
  |((with_reducible apply qCh);rfl;rfl)
  |((with_reducible apply qEz);rfl)
  |((with_reducible apply qqW);rfl)
  |(with_reducible apply quq)
  |((with_reducible apply qEA);rfl)
  |((with_reducible apply qqX);rfl)
  |(with_reducible apply qur)
  |(with_reducible apply qCm)
  |(with_reducible apply qzn)
  |(with_reducible apply qCn)
  |(with_reducible apply qzo))
 |((with_reducible (show evG _ _ _ _ _));first
  |((with_reducible apply qwd);rfl;rfl)
  |((with_reducible apply qwe);rfl;rfl)
  |(with_reducible apply qBa)
  |(with_reducible apply qzh)
  |(with_reducible apply qzi)
  |(with_reducible apply qCk))
 |(with_reducible apply qqS)
 |(with_reducible apply qCo)
 |(with_reducible apply qqT)
 |(with_reducible apply qwh)
 |(with_reducible apply qnR)
 |(with_reducible apply qmf)
 |((with_reducible apply qkX);rfl)
 |(with_reducible apply qzp)
 |(with_reducible apply qpf))
 exact k.o):p:=f ⟨h⟩
theorem zA{p q:Prop}(h:q)(f:ZB q→p:=by
 intro k
 refine zA1 ?_
 repeat'(refine zA1 ?_)
 exact k.o):p:=f ⟨h⟩
theorem zS{p q:Prop}(h:q)(f:ZB q→p:=by
 intro k
 first
 |(with_reducible apply qbK)
 |(with_reducible apply qbD)
 |((with_reducible apply qsi);kernel_rfl;rfl)
 exact k.o):p:=f ⟨h⟩
theorem zQ{p q:Prop}(h:q)(f:ZB q→p:=by
 intro k
 (first|refine zS ?_|refine zA1 ?_)
 repeat'(first|refine zS ?_|refine zA1 ?_)
 exact k.o):p:=f ⟨h⟩
theorem zF{P:Program}{g:FuncId}{ds:List D}{o:Outc}{p q:Prop}(hc:Contract P g ds o)(h:q)(f:Contract P g ds o→ZB q→p:=by
 intro hc k
 (first
 |((with_reducible refine qaj ?_ hc ?_ ?_);rfl;rfl)
 |((with_reducible refine qae ?_ hc ?_ ?_);rfl;rfl)
 |((with_reducible refine qbF ?_ hc ?_ ?_ ?_ ?_);rfl;rfl;(exact zL rfl);rfl)
 |((with_reducible refine qn4 ?_ ?_ hc ?_ ?_ ?_ ?_);rfl;rfl;rfl;(exact zL rfl);rfl))
 exact k.o):p:=f hc ⟨h⟩
theorem zE{p q:Prop}(h:q)(f:ZB q→p:=by
 intro k
 (first
 |((with_reducible apply qCp);rfl)
 |((with_reducible apply qzq);rfl)
 |((with_reducible apply qCq);rfl)
 |((with_reducible apply qzr);rfl)
 |((with_reducible apply qwr);rfl)
 |((with_reducible apply qEH);rfl;rfl;rfl;rfl;rfl;rfl)
 |((with_reducible apply qEG);rfl;rfl;rfl;rfl)
 |((with_reducible apply qCv);rfl;rfl)
 |((with_reducible apply qCu);rfl;rfl;rfl;rfl;rfl;rfl)
 |((with_reducible apply qCt);rfl;rfl;rfl;rfl)
 |((with_reducible apply qzv);rfl;rfl))
 exact k.o):p:=f ⟨h⟩
theorem zI{p q:Prop}(h:q)(f:ZB q→p:=by
 intro k
 with_reducible (show qap _ (.indexAddr _ _ _) _ _ _ _)
 first
 |((with_reducible apply qpo);rfl;rfl;(with_reducible rfl);(intro;rfl);rfl;omega)
 |((with_reducible apply qhs);rfl;rfl;rfl;(with_reducible rfl);rfl;rfl;omega)
 |((with_reducible apply qsh);rfl;rfl;(intro;rfl);rfl;omega)
 exact k.o):p:=f ⟨h⟩
theorem zC{p q r:Prop}(h1:q)(h2:r)(f:ZB q→ZB r→p:=by
 intro k1 k2
 with_reducible apply qCf
 rfl
 ·(intro h;simp only[h];first|(refine(fun _:True=>?_) k1.o;(try simp only[zB]at h);(try exact absurd trivial h);done)|((try simp only[zB]at h);revert h;exact k1.o))
 ·(intro h;simp only[h];first|(refine(fun _:True=>?_) k2.o;(try simp only[zB]at h);(try exact absurd trivial h);done)|((try simp only[zB]at h);revert h;exact k2.o))):p:=f ⟨h1⟩ ⟨h2⟩
theorem zG{p q r:Prop}(h1:q)(h2:r)(f:ZB q→ZB r→p:=by
 intro k1 k2
 with_reducible apply qnQ
 rfl
 ·(intro h;simp only[h,Bool.not_true,Bool.not_false];(try with_reducible (refine⟨rfl,?_⟩));first|(refine(fun _:True=>?_) k1.o;(try simp only[zB]at h);(try exact absurd trivial h);done)|((try simp only[zB]at h);revert h;exact k1.o))
 ·(intro h;simp only[h,Bool.not_true,Bool.not_false];(try with_reducible (refine⟨rfl,?_⟩));first|(refine(fun _:True=>?_) k2.o;(try simp only[zB]at h);(try exact absurd trivial h);done)|((try simp only[zB]at h);revert h;exact k2.o))):p:=f ⟨h1⟩ ⟨h2⟩
end Go.Pv

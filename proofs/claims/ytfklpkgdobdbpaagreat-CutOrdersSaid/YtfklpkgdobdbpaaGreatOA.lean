import Derived.Test.YtfklpkgdobdbpaaGreatCBV
/- Part of the proofs. -/
set_option linter.unusedVariables false
set_option linter.unusedSimpArgs false
set_option linter.unnecessarySimpa false
namespace Go.Pv
section
variable {P:Program}{K:X→St→Prop}{env:Env}{hp:Hp}{nx n id:Nat}{s:Tmp}{x y:Operand}{t:TypeId}
end
section
variable {P:Program}{K:X→St→Prop}{env:Env}{hp:Hp}{nx n id:Nat}{s:Tmp}{x y:Operand}{t:TypeId}
theorem qMW{α:Type}{f:α→List D}{e k b len:Nat}{l l2:List α}[hs:TSlice P t e k](hf:qjg f k)(h1:qac env x=.os b 0 len)(h2:qac env y=.sl (l2.map f))(hb:lkH hp b=some ⟨k,true,l.map f⟩)(hlen:len=l.length)
  (hz:qjB P e=true) (hby:Nat.ble (P.bytesOf e) 4096=true) (hn:l.length+l2.length≤1000000000) (hd:qak n (some s)=true)
  (hk:K .normal ⟨(s,.os b 0 (l++l2).length)::qfZ b env,(b,⟨k,true,(l++l2).map f⟩)::qg9 b hp,nx,n⟩):qap P (.call {callee:=.builtin .append,args:= #[x,y],argTypes:= #[t,t]}) id (some s) ⟨env,hp,nx,n⟩ K:=by
 have hby':P.bytesOf e≤4096:=Nat.le_of_ble_eq_true hby
 have hap:qcN P (lkH hp) t (qac env x) (qac env y)=some (some b,⟨k,true,(l++l2).map f⟩):=by
  have ho:qaY (lkH hp) (.os b 0 len)=some (l.map f):=by
   have:(l.map f).take l.length=l.map f:=List.take_of_length_le (by simp)
   simp[qaY,hb,hlen,this]
  unfold qcN
  rw[hs.u,h1,h2]
  have hx:qaY (lkH hp) (.sl (l2.map f))=some (l2.map f):=rfl
  simp only[hx,ho,Option.bind_some]
  have hmul:(l.length+l2.length)*P.bytesOf e≤140737488355328:=by
   have:=Nat.mul_le_mul hn hby'
   omega
  rw[if_pos]
  ·rw[hb]
   simp only[Option.bind_some]
   rw[if_pos]
   ·simp[hs.c,qeC hf]
   ·refine⟨.inl hs.c.symm,fun r hr c hc=>?_⟩
    rw[←List.map_append]at hr
    obtain⟨a,_,rfl⟩:=List.mem_map.1 hr
    exact qoO (List.all_eq_true.1 (hf a).2.1 c hc)
  ·refine⟨by rw[hs.c];exact hs.p,fun r hr=>?_,fun r hr c hc=>?_,by simpa using hmul,by simp;omega,hz,rfl⟩
   ·obtain⟨a,_,rfl⟩:=List.mem_map.1 hr
    rw[(hf a).1,hs.c]
   ·obtain⟨a,_,rfl⟩:=List.mem_map.1 hr
    exact List.all_eq_true.1 (hf a).2.2 c hc
 refine qgn hap hd ?_
 have e:(⟨k,true,(l++l2).map f⟩:Blk).rows.length=(l++l2).length:=by simp
 rw[e]
 exact hk
theorem qMA{l rest:List Oper}{m:Nat}{zs:List (List Nat)}{z:List Nat}{dst:Option Tmp}{op:Op}{ty:TypeId}{pos:String}{af:Array Edge}{g:Option (Nat×Bool)}(bs:List Nat)(ss:List (Nat×D))(hp':∀x∈ss,pur (qzD bs (lkH hp)) 64 (lkE env x.1)=some x.2)
  (hz:(ss.all fun x=>z.all fun j=>qbp l j !=some x.1)=true) (h:qap P op id dst ⟨ss++env,qzE bs hp,id,n⟩ (kLc qcr P l m rest zs z id K)):
  qcD qcr P l m ({dst:=dst,op:=op,type:=ty,pos:=pos,after:=af,guard:=g}::rest) (z::zs) id ⟨env,hp,nx,n⟩ K:=by
 refine .inr (.inr (.inr (.inr ⟨⟨ss++env,qzE bs hp,id,n⟩,fun A E2 hA hE=>⟨ss++E2,fun s hs=>?_,qm3 bs ss fun x hx=>?_⟩,h⟩)))
 ·rw[qi4,qi4]
  split
  ·rfl
  ·exact hE s hs
 ·rw[hE x.1 (hA x.1 fun j hj=>?_)]
  ·exact hp' x hx
  ·have:=List.all_eq_true.1 (List.all_eq_true.1 hz x hx) j hj
   simpa using this
end
section
variable {P:Program}{K:X→St→Prop}{env:Env}{hp:Hp}{nx n id:Nat}
end
section
variable {P:Program}{id nx n:Nat}{env:List (Tmp×D)}{hp:List (Nat×Blk)}{K:X→St→Prop}{x:Operand}{s:Tmp}
def qM6(E:St→St→Prop)(P:Program)(l:List Oper)(m:Nat)(zs:List (List Nat))(K:X→St→Prop):X→St→Prop:=qfi fun st'=>qcD E P l m (l.drop m) zs st'.nx st' K
theorem qMU{E:St→St→Prop}{l:List Oper}{m:Nat}{zs:List (List Nat)}(h:qcD E P l m (l.drop m) zs nx ⟨env,hp,nx,n⟩ K):qM6 E P l m zs K .normal ⟨env,hp,nx,n⟩:=h
theorem qM0{E:St→St→Prop}(i m:Nat)(zs:List (List Nat)){l:List Oper}(hc:qeW l m zs=true)(hdom:(hp.all fun x=>decide (x.1<nx))=true)(h:qaP P l (l.take m) nx ⟨env,hp,nx,n⟩ (qM6 E P l m zs K)):
  evG E P (.region i l.toArray true) K ⟨env,hp,nx,n⟩:=.inr (.inr ⟨m,zs,hc,hdom,h⟩)
theorem qMF{E:St→St→Prop}{l l':List Oper}{m k:Nat}{o:Oper}{zs:List (List Nat)}{st:St}(h:qcD E P l m (List.drop k l') zs id st K):qcD E P l m (List.drop (k+1) (o::l')) zs id st K:=h
theorem qMB{E:St→St→Prop}{l l':List Oper}{m:Nat}{zs:List (List Nat)}{st:St}(h:qcD E P l m l' zs id st K):qcD E P l m (List.drop 0 l') zs id st K:=h
theorem qMG{E:St→St→Prop}{l rest:List Oper}{m:Nat}{zs:List (List Nat)}{z:List Nat}{dst:Option Tmp}{op:Op}{ty:TypeId}{pos:String}{af:Array Edge}{g:Option (Nat×Bool)}(h:qap P op id dst ⟨env,hp,nx,n⟩ (kLc E P l m rest zs z id K)):
  qcD E P l m ({dst:=dst,op:=op,type:=ty,pos:=pos,after:=af,guard:=g}::rest) (z::zs) id ⟨env,hp,nx,n⟩ K:=.inl h
theorem qMV{E:St→St→Prop}{l rest:List Oper}{m:Nat}{zs:List (List Nat)}{z:List Nat}(h1:qbP P l ⟨env,hp,nx,n⟩ z)(h2:qcD E P l m rest zs (id+32+32*m) ⟨env,hp,nx,n⟩ K):kLc E P l m rest zs z id K .normal ⟨env,hp,nx,n⟩:=⟨h1,h2⟩
theorem qMI{E:St→St→Prop}{l:List Oper}{m:Nat}(h:K .normal ⟨env,hp,id,n⟩):qcD E P l m [] [] id ⟨env,hp,nx,n⟩ K:=h
end
section
variable {P:Program}{K:X→St→Prop}{env:Env}{hp:Hp}{nx n id:Nat}
variable {s:Tmp}{x y:Operand}{t t':TypeId}
theorem qMQ{E:St→St→Prop}{i:Nat}{l:List Oper}(h:qh3 E P l l nx ⟨env,hp,nx,n⟩ K):evG E P (.region i l.toArray false) K ⟨env,hp,nx,n⟩:=.inr (.inr h)
end
end Go.Pv
namespace Go.Pv.Ord
variable {n:Nat}{R p:Nat→Nat→Int}
theorem qNe{s t:Nat}(hs:s≤2^n)(ht:t≤s):(ql4 n R s).getD t false=(ql4 n R t).getD t false:=by
 rw[Bool.eq_iff_iff,qH9 hs ht,qH9 (by omega) (Nat.le_refl t)]
end Go.Pv.Ord
open Go Go.Proofs Go.Pv
namespace Go.Pv.Tf
instance qNi:TZero Tryz.prog 42 (.int .i64 0):=⟨by kernel_rfl,rfl,by decide⟩
instance qNh:TCells Tryz.prog 188 1:=⟨by kernel_rfl,by decide⟩
end Go.Pv.Tf
namespace Go.Pv.Ord
variable {n:Nat}{R p:Nat→Nat→Int}
theorem qM2{α:Type}{f:α→Int}{l:List α}{x:α}(h:qov f l x){b:Nat}(hb:b<l.length)(h1:∀j (hj:j<b),f l[b]<f (l[j]'(by omega)))(h2:∀j (hj:j<l.length),f l[b]≤f l[j]):l[b]=x:=by
 obtain⟨l1,l2,rfl,g1,g2⟩:=h
 have hx:(l1++x::l2)[l1.length]'(by simp)=x:=by simp
 rcases Nat.lt_trichotomy b l1.length with hlt|rfl|hgt
 ·exfalso
  have e:(l1++x::l2)[b]=l1[b]:=List.getElem_append_left hlt
  have k1:=g1 l1[b] (List.getElem_mem hlt)
  have k2:=h2 l1.length (by simp)
  rw[hx,e]at k2
  omega
 ·exact hx
 ·exfalso
  have k1:=h1 l1.length hgt
  rw[hx]at k1
  have hm:(l1++x::l2)[b]∈x::l2:=by
   rw[List.getElem_append_right (by omega)]
   exact List.getElem_mem _
  rcases List.mem_cons.1 hm with e|e
  ·rw[e]at k1;omega
  ·have:=g2 _ e;omega
theorem qMy:∀{o:List Nat} {s:Nat},ql1 (fun _ _=>0) s o=0
 |[],_=>rfl
 |k::o,s=>by simp only[ql1,qMy (o:=o)];rfl
theorem qNc{m s:Nat}:planO n R (fun _ _=>0) m s=none∧ordL n R m s=[]∨planO n R (fun _ _=>0) m s=some 0∧∃h:0<(ordL n R m s).length,qbn n R (fun _ _=>0) m s=(ordL n R m s)[0]:=by
 obtain⟨h1,h2⟩:=plan_first (n:=n) (R:=R) (p:=fun _ _=>0) m s
 cases hp:planO n R (fun _ _=>0) m s with
 |none=>exact .inl ⟨rfl,h1 hp⟩
 |some c=>
  obtain⟨g1,g2⟩:=h2 c hp
  rw[qMy]at g2
  have hl:0<(ordL n R m s).length:=by
   obtain⟨l1,l2,e,_⟩:=g1
   rw[e,List.length_append,List.length_cons];omega
  refine .inr ⟨by rw[←g2],hl,?_⟩
  exact(qM2 g1 hl (fun j hj=>absurd hj (by omega)) fun j hj=>by rw[qMy,qMy];omega).symm
end Go.Pv.Ord
set_option maxHeartbeats 8000000
set_option maxRecDepth 100000
namespace Go.Pv.Soil
theorem tm2{q:Nat}:(q:Int).tmod 2=((q%2:Nat):Int):=by
 rw[Int.tmod_eq_emod_of_nonneg (by omega)]
 omega
theorem qtO(s:Site)(hs:OkSite s)(l:List Cut)(hll:l.length≤8)(hl:∀i (hi:i<l.length),OkCut s l[i])(set:Nat)(hset:set≤1000):Contract Tryz.prog 117 [.agg (encSite s),.sl (l.map encCut),.int .i64 set] (.ret (.agg (qag (qd3 s l set)))):=by
 have hsm:=hs.bed.small
 have h1:Contract Tryz.prog 79 [.agg (qag s.bed)] (.ret (.agg (qag s.bed))):=qEU qrk (c91 s.bed (by omega))
 refine zT mix Tryz.func117 Tryz.ntmps117 Tryz.results117 rfl rfl rfl ?_;simp only[qab,Nat.reduceAdd]
 repeat'(first|refine zQ ?_|refine zF h1 ?_|fail)
 refine qad l.length (fun i=>⟨[(8,.int .i64 i),(2,.int .i64 set),(1,.sl (l.map encCut)),(3,.op 0 0 0),(6,.op 1 0 0),(7,.op 2 0 0)],[(0,⟨12,true,[encSite s]⟩),(1,⟨6,false,[[.int .i64 0,.int .i64 0,.int .i64 0,.int .i64 0,.int .i64 0,.nilsl]]⟩),(2,⟨6,false,[qag (qkt s l set i)]⟩)],96,31⟩) (fun i=>True) ?_ trivial ?_
 ·exact qaa (nx:=96) (k:=0) (ns:=[]) (ks:=[8,2,1,3,6,7]) [(0,0),(32,1),(160,2)] rfl (by simp) (by kernel_rfl)
 intro i hi _
 have hok:=ql0 hs hl (set:=set) i
 by_cases hL:i<l.length
 ·have h2:=qgx s hs.bed (qkt s l set i) hok l[i] (hl i hL)
  have hsu:=qiG (s:=s) (set:=set) hL
  cases hb:qiF set i with
  |true=>
   have hm:set/2^i%2=1:=of_decide_eq_true hb
   rw[if_pos hb]at hsu
   rw[←hsu]at h2
   generalize qkt s l set (i+1)=g2 at*
   generalize qkt s l set i=g1 at*
   repeat'(first|((with_reducible apply qdx);rfl;rfl;rfl;omega)|refine zS ?_|refine zA ?_|refine zF h2 ?_|(refine zI ?_;intro hlt)|(refine zC ?_ ?_<;>first|intro h|simp)|fail)
   all_goals first
    |exact absurd hL (by omega)
    |(exfalso;simp only[tm2]at *;omega)
    |exact⟨hL,trivial,qaa (nx:=96) (k:=0) (ns:=[]) (ks:=[8,2,1,3,6,7]) [(0,0),(1,1),(2,2)] rfl (by simp) (by kernel_rfl)⟩
    |(exfalso;omega)
    |trace_state
  |false=>
   have hm:¬set/2^i%2=1:=of_decide_eq_false hb
   rw[if_neg (by rw[hb];simp)]at hsu
   rw[hsu]
   generalize qkt s l set i=g1 at*
   repeat'(first|((with_reducible apply qdx);rfl;rfl;rfl;omega)|refine zS ?_|refine zA ?_|refine zF h2 ?_|(refine zI ?_;intro hlt)|(refine zC ?_ ?_<;>first|intro h|simp)|fail)
   all_goals first
    |exact absurd hL (by omega)
    |(exfalso;simp only[tm2]at *;omega)
    |exact⟨hL,trivial,qaa (nx:=96) (k:=0) (ns:=[]) (ks:=[8,2,1,3,6,7]) [(0,0),(1,1),(2,2)] rfl (by simp) (by kernel_rfl)⟩
    |(exfalso;omega)
    |trace_state
 ·obtain rfl:i=l.length:=by omega
  unfold qd3
  generalize qkt s l set l.length=g1 at*
  repeat'(first|refine zQ ?_|(refine zI ?_;intro hlt)|(refine zC ?_ ?_<;>first|intro h|simp)|((with_reducible apply qaz);rfl;rfl)|fail)
  all_goals first
   |exact absurd (show l.length<l.length by omega) hL
   |exact qif rfl rfl rfl
   |trace_state
theorem qFQ(s:Site)(hz:Sized s)(hs:OkSite s)(h100:s.bed.levels.length≤100)(l:List Cut)(hll:l.length≤8)(hl:∀i (hi:i<l.length),OkCut s l[i])(set:Nat)(hset:set≤1000)(k:Nat)(hk:k<l.length):Contract Tryz.prog 132 [.agg (encSite s),.sl (l.map encCut),.int .i64 set,.int .i64 k] (.ret (.int .i64 (qou s l set k))):=by
 have hok:=ql0 hs hl (set:=set) l.length
 have hlen:=hok.len hs.bed
 have h1:=qtO s hs l hll hl set hset
 have h2:=qqg s hz hs (qd3 s l set) hok (by unfold qd3;omega) l[k] (hl k hk)
 have e:qou s l set k=qAA (qfg s (qd3 s l set) l[k]):=by simp only[qou,List.getElem?_eq_getElem hk]
 rw[e]
 generalize qfg s (qd3 s l set) l[k]=o at*
 generalize qd3 s l set=g at*
 cases o with
 |none=>
  refine zT mix Tryz.func132 Tryz.ntmps132 Tryz.results132 rfl rfl rfl ?_;simp only[qab,Nat.reduceAdd]
  repeat'(first|((with_reducible apply(qaS 14 [[12],[]]));decide +kernel;rfl)|(with_reducible apply qaR)|(with_reducible apply qav)|(with_reducible apply qas)|(with_reducible apply qby)|(with_reducible apply qaA)|(with_reducible apply qcv)|(with_reducible apply qaw)|((with_reducible apply qa9);rfl;(intro id'))|((with_reducible apply qaT);rfl)|refine zS ?_|refine zA ?_|refine zF h1 ?_|refine zF h2 ?_|(refine zI ?_;intro hlt)|refine zE ?_|fail)
  all_goals rfl
 |some v=>
  obtain⟨r,c⟩:=v
  refine zT mix Tryz.func132 Tryz.ntmps132 Tryz.results132 rfl rfl rfl ?_;simp only[qab,Nat.reduceAdd]
  repeat'(first|((with_reducible apply(qaS 14 [[12],[]]));decide +kernel;rfl)|(with_reducible apply qaR)|(with_reducible apply qav)|(with_reducible apply qas)|(with_reducible apply qby)|(with_reducible apply qaA)|(with_reducible apply qcv)|(with_reducible apply qaw)|((with_reducible apply qa9);rfl;(intro id'))|((with_reducible apply qaT);rfl)|refine zS ?_|refine zA ?_|refine zF h1 ?_|refine zF h2 ?_|(refine zI ?_;intro hlt)|refine zE ?_|fail)
  all_goals rfl
theorem qNd(o:List Nat)(ho:o.length≤1000000):Contract Tryz.prog 155 [.sl (o.map qcx)] (.ret (.fr 1 (o.map qcx))):=by
 have:=c70 (o.map fun k:Nat=>(k:Int)) (by rw[List.length_map];omega)
 rw[List.map_map]at this
 exact this
def qAX(l:List Cut):Bool:=decide (l.length≤4∨8<l.length)
theorem qFV(l:List Cut)(hl:l.length≤9223372036854775807):Contract Tryz.prog 32 [.sl (l.map encCut)] (.ret (.bool (qAX l))):=by
 by_cases h:l.length≤4∨8<l.length
 ·have e:qAX l=true:=decide_eq_true h
  rw[e]
  refine zT mix Tryz.func32 Tryz.ntmps32 Tryz.results32 rfl rfl rfl ?_;simp only[qab,Nat.reduceAdd]
  repeat'(first|(with_reducible rfl)|refine zQ ?_|(refine zG ?_ ?_<;>first|intro h|simp)|refine zE ?_|fail)
  all_goals first|rfl|(exfalso;omega)|(simp;omega)|trace_state
 ·have e:qAX l=false:=decide_eq_false h
  rw[e]
  refine zT mix Tryz.func32 Tryz.ntmps32 Tryz.results32 rfl rfl rfl ?_;simp only[qab,Nat.reduceAdd]
  repeat'(first|refine zQ ?_|(refine zG ?_ ?_<;>first|intro h|simp)|refine zE ?_|fail)
  all_goals first|rfl|(exfalso;omega)|(simp;omega)|trace_state
def qAY(s:Site)(l:List Cut)(set k:Nat):Bool:=match l[k]? with
 |some c=> !qiF set k&&qjl s (qd3 s l set) c
 |none=>false
def qqA(s:Site)(l:List Cut):Bool:=(List.range (2^l.length)).all fun set=>(List.range l.length).all fun k=> !qAY s l set k
theorem qAZ{s:Site}{l:List Cut}{set k:Nat}(h1:set<2^l.length)(h2:k<l.length)(h:qAY s l set k=true):qqA s l=false:=by
 rw[Bool.eq_false_iff]
 intro hh
 have:=List.all_eq_true.1 (List.all_eq_true.1 hh set (List.mem_range.2 h1)) k (List.mem_range.2 h2)
 rw[h]at this
 cases this
theorem qy2{s:Site}{l:List Cut}(h:∀set,set<2^l.length→∀k,k<l.length→qAY s l set k=false):qqA s l=true:=
 List.all_eq_true.2 fun set hs=>List.all_eq_true.2 fun k hk=>by rw[h set (List.mem_range.1 hs) k (List.mem_range.1 hk)];rfl
theorem qDX(s:Site)(hz:Sized s)(hs:OkSite s)(h100:s.bed.levels.length≤100)(l:List Cut)(hll:l.length≤8)(hl:∀i (hi:i<l.length),OkCut s l[i]):Contract Tryz.prog 34 [.agg (encSite s),.sl (l.map encCut)] (.ret (.bool (qqA s l))):=by
 obtain⟨p8,p1⟩:=qy6 hll
 refine zT mix Tryz.func34 Tryz.ntmps34 Tryz.results34 rfl rfl rfl ?_;simp only[qab,Nat.reduceAdd]
 repeat'(first|refine zQ ?_|fail)
 refine qad (2^l.length) (fun i=>⟨[(5,.int .i64 i),(1,.sl (l.map encCut)),(2,.op 0 0 0)],[(0,⟨12,true,[encSite s]⟩)],32,37⟩) (fun i=>∀t,t<i→∀k,k<l.length→qAY s l t k=false) ?_ (fun t ht=>absurd ht (by omega)) ?_
 ·exact qaa (nx:=32) (k:=0) (ns:=[]) (ks:=[5,1,2]) [(0,0)] rfl (by simp) (by kernel_rfl)
 intro i hi hC
 by_cases hL:i<2^l.length
 rotate_left
 ·rw[qy2 fun t ht k hk=>hC t (by omega) k hk]
  repeat'(first|((with_reducible apply qce);rfl;rfl;rfl;omega)|(with_reducible rfl)|refine zS ?_|refine zA ?_|(refine zC ?_ ?_<;>first|intro h|simp)|refine zE ?_|fail)
  all_goals first|rfl|exact absurd hL (by omega)|(exfalso;omega)|trace_state
 repeat'(first|((with_reducible apply qce);rfl;rfl;rfl;omega)|refine zS ?_|refine zA ?_|(refine zC ?_ ?_<;>first|intro h|simp)|refine zE ?_|fail)
 all_goals try(exfalso;omega)
 refine qad l.length (fun k=>⟨[(6,.int .i64 k),(5,.int .i64 i),(1,.sl (l.map encCut)),(2,.op 0 0 0)],[(0,⟨12,true,[encSite s]⟩)],32,37⟩) (fun k=>∀j,j<k→qAY s l i j=false) ?_ (fun t ht=>absurd ht (by omega)) ?_
 ·exact qaa (nx:=32) (k:=0) (ns:=[]) (ks:=[6,5,1,2]) [(0,0)] rfl (by simp) (by kernel_rfl)
 intro k hk hJ
 by_cases hK:k<l.length
 rotate_left
 ·repeat'(first|refine zQ ?_|(refine zC ?_ ?_<;>first|intro h|simp)|(refine zG ?_ ?_<;>first|intro h|simp)|((with_reducible apply qaz);rfl;rfl)|fail)
  all_goals first
   |exact absurd hK (by omega)
   |exact⟨hL,(fun t ht j hj=>by
     rcases Nat.lt_succ_iff_lt_or_eq.1 ht with h'|rfl
     ·exact hC t h' j hj
     ·exact hJ j (by omega)),qaa (nx:=32) (k:=0) (ns:=[]) (ks:=[5,1,2]) [(0,0)] rfl (by simp) (by kernel_rfl)⟩
   |trace_state
 have hok:=ql0 hs hl (set:=i) l.length
 have hlen:=hok.len hs.bed
 have h1:=qtO s hs l hll hl i (by omega)
 have h2:=qx0 s hs hz (qd3 s l i) hok (by unfold qd3;omega) l[k] (hl k hK)
 have hbd:qAY s l i k=(!qiF i k&&qjl s (qd3 s l i) l[k]):=by simp only[qAY,List.getElem?_eq_getElem hK]
 have hno:=qAZ (s:=s) (l:=l) (set:=i) (k:=k) hL hK
 generalize qqA s l=R at*
 generalize qjl s (qd3 s l i) l[k]=lo at*
 generalize qd3 s l i=g at*
 cases hb:qiF i k with
 |true=>
  have hm:i/2^k%2=1:=of_decide_eq_true hb
  have hf:qAY s l i k=false:=by rw[hbd,hb];rfl
  repeat'(first|((with_reducible apply qdx);rfl;rfl;rfl;omega)|refine zS ?_|refine zA ?_|refine zF h1 ?_|refine zF h2 ?_|(refine zI ?_;intro hlt)|(refine zC ?_ ?_<;>first|intro h|simp)|(refine zG ?_ ?_<;>first|intro h|simp)|refine zE ?_|fail)
  all_goals first
   |exact absurd hK (by omega)
   |(exfalso;simp only[tm2]at *;omega)
   |exact⟨hK,(fun j hj=>by
     rcases Nat.lt_succ_iff_lt_or_eq.1 hj with h'|rfl
     ·exact hJ j h'
     ·exact hf),qaa (nx:=32) (k:=0) (ns:=[]) (ks:=[6,5,1,2]) [(0,0)] rfl (by simp) (by kernel_rfl)⟩
   |trace_state
 |false=>
  have hm:¬i/2^k%2=1:=of_decide_eq_false hb
  cases lo with
  |true=>
   rw[hno (by rw[hbd,hb];rfl)]
   repeat'(first|((with_reducible apply qdx);rfl;rfl;rfl;omega)|(with_reducible rfl)|refine zS ?_|refine zA ?_|refine zF h1 ?_|refine zF h2 ?_|(refine zI ?_;intro hlt)|(refine zC ?_ ?_<;>first|intro h|simp)|(refine zG ?_ ?_<;>first|intro h|simp)|refine zE ?_|fail)
   all_goals first|rfl|exact absurd hK (by omega)|(exfalso;simp only[tm2]at *;omega)|trace_state
  |false=>
   have hf:qAY s l i k=false:=by rw[hbd,hb];rfl
   repeat'(first|((with_reducible apply qdx);rfl;rfl;rfl;omega)|refine zS ?_|refine zA ?_|refine zF h1 ?_|refine zF h2 ?_|(refine zI ?_;intro hlt)|(refine zC ?_ ?_<;>first|intro h|simp)|(refine zG ?_ ?_<;>first|intro h|simp)|fail)
   all_goals first
    |exact absurd hK (by omega)
    |(exfalso;simp only[tm2]at *;omega)
    |exact⟨hK,(fun j hj=>by
      rcases Nat.lt_succ_iff_lt_or_eq.1 hj with h'|rfl
      ·exact hJ j h'
      ·exact hf),qaa (nx:=32) (k:=0) (ns:=[]) (ks:=[6,5,1,2]) [(0,0)] rfl (by simp) (by kernel_rfl)⟩
    |trace_state
end Go.Pv.Soil

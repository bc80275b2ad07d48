import Derived.Test.YtfklpkgdobdbpaaGreatCAG
/- Part of the proofs over YtfklpkgdobdbpaaGreat: PH2, PH3, PH4, PH10, Q3. -/
set_option linter.unusedVariables false
set_option linter.unusedSimpArgs false
set_option linter.unnecessarySimpa false
open Go Go.Proofs Go.Pv
set_option maxHeartbeats 8000000
set_option maxRecDepth 100000
set_option linter.unusedSimpArgs false
set_option linter.unusedVariables false
namespace Go.Pv.Geo
def qbg(a d:Pt):Prop:=(-20000≤a.x-d.x∧a.x-d.x≤20000)∧ -20000≤a.y-d.y∧a.y-d.y≤20000
def qxO(n:Int):Int:=if n<0 then 0-n else n
theorem qFH(n:Int)(h: -9223372036854775807≤n)(h':n≤9223372036854775807):Contract Tryz.prog 136 [.int .i64 n] (.ret (.int .i64 (qxO n))):=by
 refine zT mix Tryz.func136 Tryz.ntmps136 Tryz.results136 rfl rfl rfl ?_;simp only[qac,Nat.reduceAdd]
 repeat'(first|refine zQ ?_|(refine zC ?_ ?_<;>first|intro h|simp)|refine zE ?_|fail)
 all_goals (unfold qxO;first|rw[if_pos (by assumption)]|rw[if_neg (by omega)])
def crossX(a b c:Pt):Int:=if(ptOK a&&ptOK b&&ptOK c)=true then crossE a b c else 0
theorem ok2{a b:Pt}(h:(ptOK a&&ptOK b)=true):ptOK a=true∧ptOK b=true:=by simpa using h
theorem ok3{a b c:Pt}(h:(ptOK a&&ptOK b&&ptOK c)=true):ptOK a=true∧ptOK b=true∧ptOK c=true:=by
 simp only[Bool.and_eq_true]at h;exact⟨h.1.1,h.1.2,h.2⟩
theorem c_Cross(a b c:Pt):Contract Tryz.prog 290 [.agg (encPt a),.agg (encPt b),.agg (encPt c)] (.ret (.int .i64 (crossX a b c))):=by
 have h1:=qkz a b c
 unfold crossX
 cases hok:ptOK a&&ptOK b&&ptOK c
 ·rw[hok]at h1
  refine zT mix Tryz.func290 Tryz.ntmps290 Tryz.results290 rfl rfl rfl ?_;simp only[qac,Nat.reduceAdd]
  repeat'(first|((with_reducible apply qad);(exact qbD rfl (by simp) rfl);(exact h1);rfl)|refine zQ ?_|refine zE ?_|fail)
  all_goals rfl
 ·rw[hok]at h1
  obtain⟨ha,hb,hc⟩:=ok3 hok
  refine zT mix Tryz.func290 Tryz.ntmps290 Tryz.results290 rfl rfl rfl ?_;simp only[qac,Nat.reduceAdd]
  repeat'(first|((with_reducible (show qan _ (.call _) _ _ _ _));first|((with_reducible apply qad);(exact qbD rfl (by simp) rfl);(exact h1);rfl)|((with_reducible apply qaj);rfl;(exact qiJ a b c ha hb hc);rfl))|refine zQ ?_|refine zE ?_|fail)
  all_goals rfl
def cr(b c d:Pt):Int:=(b.x-d.x)*(c.y-d.y)-(b.y-d.y)*(c.x-d.x)
theorem qvi:Tryz.prog.cellsOf 108=2:=by kernel_rfl
def qae(l:List Pt)(i:Nat):Pt:=l.getD (i%l.length) ⟨0,0⟩
theorem qds{l:List Pt}(h:0<l.length)(i:Nat):qae l i=l[i%l.length]'(Nat.mod_lt _ h):=by
 simp[qae,List.getD_eq_getElem?_getD,Nat.mod_lt _ h]
theorem qa4{l:List Pt}(h:0<l.length)(i:Nat):qae l i∈l:=by
 rw[qds h];exact List.getElem_mem _
theorem qdt{l:List Pt}{i:Nat}(h:i<l.length):qae l i=l[i]:=by
 rw[qds (by omega)];simp only[Nat.mod_eq_of_lt h]
theorem qhQ(l:List Pt)(h0:0<l.length)(hl:l.length<1000000000000)(i:Nat):Contract Tryz.prog 256 [.sl (l.map encPt),.int .i64 i] (.ret (.agg (encPt (qae l i)))):=by
 have hm:=Nat.mod_lt i h0
 have e:((i:Int)%(l.length:Int))=((i%l.length:Nat):Int):=by simp
 have hlt':0≤(i:Int)%(l.length:Int)∧(i:Int)%(l.length:Int)<l.length:=by rw[e];omega
 have e2:((i:Int)%(l.length:Int)).toNat=i%l.length:=by rw[e];rfl
 rw[qds h0]
 refine zT mix Tryz.func256 Tryz.ntmps256 Tryz.results256 rfl rfl rfl ?_;simp only[qac,Nat.reduceAdd]
 repeat'(first|refine zQ ?_|(refine zI ?_;intro hlt)|refine zE ?_|fail)
 all_goals (rw[qvi];simp only[e2];rfl)
theorem qcF(l:List Pt)(h0:0<l.length)(hl:l.length<1000000000000)(i:Nat):Contract Tryz.prog 198 [.sl (l.map encPt),.int .i64 i] (.ret (.agg (encPt (qae l i)))):=by
 have hm:=Nat.mod_lt i h0
 have e:((i:Int)%(l.length:Int))=((i%l.length:Nat):Int):=by simp
 have hlt':0≤(i:Int)%(l.length:Int)∧(i:Int)%(l.length:Int)<l.length:=by rw[e];omega
 have e2:((i:Int)%(l.length:Int)).toNat=i%l.length:=by rw[e];rfl
 rw[qds h0]
 refine zT mix Tryz.func198 Tryz.ntmps198 Tryz.results198 rfl rfl rfl ?_;simp only[qac,Nat.reduceAdd]
 repeat'(first|refine zQ ?_|(refine zI ?_;intro hlt)|refine zE ?_|fail)
 all_goals (rw[qvi];simp only[e2];rfl)
def qzk(a b:Pt):Bool:=decide (a.x=b.x)&&(decide (a.y=b.y)&&true)
theorem qhR{a b:Pt}:qzk a b=true↔a=b:=by
 cases a;cases b;simp[qzk]
def qc8(l:List Pt)(i:Nat):Bool:=qzk (qae l i) (qae l (i+1))||onE (qae l i) (qae l (i+1)) (qae l (i+2))||onE (qae l (i+1)) (qae l (i+2)) (qae l i)
def qcS(l:List Pt)(i k:Nat):Bool:=decide ((k+1)%l.length≠i)&&qfB (qae l i) (qae l (i+1)) (qae l k) (qae l (k+1))
def qc9(l:List Pt):Bool:=(List.range l.length).all fun i=> !qc8 l i&&(List.range l.length).all fun k=> !(decide (i+2≤k)&&qcS l i k)
theorem qfm{l:List Pt}{i:Nat}(hi:i<l.length)(h:qc8 l i=true):qc9 l=false:=by
 rw[qc9,List.all_eq_false]
 exact⟨i,List.mem_range.2 hi,by simp[h]⟩
theorem qhf{l:List Pt}{i k:Nat}(hi:i<l.length)(hk:k<l.length)(hik:i+2≤k)(h:qcS l i k=true):qc9 l=false:=by
 rw[qc9,List.all_eq_false]
 refine⟨i,List.mem_range.2 hi,?_⟩
 have:((List.range l.length).all fun k=> !(decide (i+2≤k)&&qcS l i k))=false:=by
  rw[List.all_eq_false]
  exact⟨k,List.mem_range.2 hk,by simp[h,hik]⟩
 rw[this,Bool.and_false];simp
theorem ql5{l:List Pt}(h1:∀i,i<l.length→qc8 l i=false)(h2:∀i,i<l.length→∀k,k<l.length→i+2≤k→qcS l i k=false):qc9 l=true:=by
 rw[qc9,List.all_eq_true]
 intro i hi
 rw[h1 i (List.mem_range.1 hi),Bool.not_false,Bool.true_and,List.all_eq_true]
 intro k hk
 by_cases hik:i+2≤k
 ·rw[h2 i (List.mem_range.1 hi) k (List.mem_range.1 hk) hik,Bool.and_false];rfl
 ·simp[hik]
theorem qxY(l:List Pt)(h3:3≤l.length)(hl:l.length<1000000000)(hok:∀q∈l,ptOK q=true):Contract Tryz.prog 271 [.sl (l.map encPt)] (.ret (.bool (qc9 l))):=by
 refine zT mix Tryz.func271 Tryz.ntmps271 Tryz.results271 rfl rfl rfl ?_;simp only[qac,Nat.reduceAdd]
 repeat'(first|refine zQ ?_|fail)
 refine qaf l.length (fun i=>⟨[(12,.int .i64 i),(11,.int .i64 l.length),(3,.int .i64 l.length),(0,.sl (l.map encPt))],[],0,69⟩) (fun i=>∀j,j<i→qc8 l j=false∧∀k,k<l.length→j+2≤k→qcS l j k=false)
  (qaa (nx:=0) (k:=0) (ns:=[]) (ks:=[12,11,3,0]) [] rfl (by simp) (by kernel_rfl)) (by omega) ?_
 intro i hi hC
 by_cases h2:i<l.length
 ·have h0:0<l.length:=by omega
  have ec:=qdt h2
  have o0:ptOK l[i]=true:=hok _ (List.getElem_mem h2)
  have o1:=hok _ (qa4 h0 (i+1))
  have o2:=hok _ (qa4 h0 (i+2))
  have k1:Contract Tryz.prog 256 [.sl (l.map encPt),.int .i64 ((i:Int)+1)] (.ret (.agg (encPt (qae l (i+1))))):=qhQ l h0 (by omega) (i+1)
  have k2:Contract Tryz.prog 256 [.sl (l.map encPt),.int .i64 ((i:Int)+2)] (.ret (.agg (encPt (qae l (i+2))))):=qhQ l h0 (by omega) (i+2)
  have n1:=qAA l[i] (qae l (i+1)) (qae l (i+2)) o0 o1 o2
  have n2:=qAA (qae l (i+1)) (qae l (i+2)) l[i] o1 o2 o0
  have hbad:qc8 l i=(qzk l[i] (qae l (i+1))||onE l[i] (qae l (i+1)) (qae l (i+2))||onE (qae l (i+1)) (qae l (i+2)) l[i]):=by rw[qc8,ec]
  have hst:=fun h=>qfm (l:=l) h2 h
  rw[hbad]at hst
  generalize hb:qae l (i+1)=b at*
  generalize hc:qae l (i+2)=c at*
  have hCi:∀j,j<i→qc8 l j=false∧∀k,k<l.length→j+2≤k→qcS l j k=false:=hC
  repeat'(first|refine zQ ?_|refine zF k1 ?_|refine zF k2 ?_|refine zF n1 ?_|refine zF n2 ?_|(refine zI ?_;intro hlt)|(refine zC ?_ ?_<;>first|intro h|simp)|(refine zG ?_ ?_<;>first|intro h|simp)|refine zE ?_|fail)
  all_goals try(exfalso;omega)
  ·exact(hst (by simp[*])).symm
  ·have hb0:qc8 l i=false:=by
    have e1:qzk l[i] b=false:= ‹(decide (l[i].x=b.x)&&(decide (l[i].y=b.y)&&true))=false›
    rw[hbad];simp[*]
   refine qaf l.length (fun j=>⟨[(8,.int .i64 ((i+2+j:Nat):Int)),(12,.int .i64 i),(11,.int .i64 l.length),(4,.int .i64 i),(3,.int .i64 l.length),(5,.op 0 0 0),(6,.op 1 0 0),(0,.sl (l.map encPt))],[(0,⟨2,true,[encPt l[i]]⟩),(1,⟨2,true,[encPt b]⟩)],32,69⟩) (fun j=>∀k,k<l.length→i+2≤k→k<i+2+j→qcS l i k=false)
    (qaa (nx:=32) (k:=0) (ns:=[]) (ks:=[8,12,11,4,3,5,6,0]) [(480,0),(512,1)] rfl (by simp) (by kernel_rfl)) (by omega) ?_
   intro j hj hC2
   by_cases h5:i+2+j<l.length
   ·have ek:=qdt h5
    have q0:ptOK (l[i+2+j])=true:=hok _ (List.getElem_mem h5)
    have q1:=hok _ (qa4 h0 (i+2+j+1))
    have k3:Contract Tryz.prog 256 [.sl (l.map encPt),.int .i64 (((i+2+j:Nat):Int)+1)] (.ret (.agg (encPt (qae l (i+2+j+1))))):=qhQ l h0 (by omega) (i+2+j+1)
    have mt:=qos l[i] b l[i+2+j] (qae l (i+2+j+1)) o0 o1 q0 q1
    have hpb:qcS l i (i+2+j)=(decide ((i+2+j+1)%l.length≠i)&&qfB l[i] b l[i+2+j] (qae l (i+2+j+1))):=by rw[qcS,ec,ek,hb]
    have hsp:=fun h=>qhf (l:=l) h2 h5 (by omega) h
    rw[hpb]at hsp
    have hmod:(((i+2+j:Nat):Int)+1)%(l.length:Int)=(((i+2+j+1)%l.length:Nat):Int):=by
     rw[Int.natCast_emod];rfl
    generalize qae l (i+2+j+1)=d at*
    generalize hk:i+2+j=k at*
    repeat'(first|refine zQ ?_|refine zF k3 ?_|refine zF mt ?_|(refine zI ?_;intro hlt)|(refine zC ?_ ?_<;>first|intro h|simp)|(refine zG ?_ ?_<;>first|intro h|simp)|refine zE ?_|fail)
    all_goals first
     |(exfalso;omega)
     |(refine(hsp ?_).symm
       simp only[Bool.and_eq_true,decide_eq_true_eq]
       exact⟨by omega,by assumption⟩)
     |(refine⟨by omega,fun k' hk' hk2 hk3=>?_,?_⟩
       ·by_cases hlast:k'<k
        ·exact hC2 k' hk' hk2 (by omega)
        ·have:k'=k:=by omega
         subst this
         rw[hpb]
         by_cases hm2:(k'+1)%l.length=i
         ·simp only[hm2,ne_eq,not_true_eq_false,decide_false,Bool.false_and]
         ·have:qfB l[i] b l[k'] d=false:=by first|assumption|(exfalso;omega)
          rw[this,Bool.and_false]
       ·rw[show i+2+(j+1)=k+1 by omega]
        exact qaa (nx:=32) (k:=0) (ns:=[]) (ks:=[8,12,11,4,3,5,6,0]) [(0,0),(1,1)] rfl (by simp) (by kernel_rfl))
     |trace_state
   ·repeat'(first|refine zQ ?_|(refine zI ?_;intro hlt)|(refine zC ?_ ?_<;>first|intro h|simp)|(refine zG ?_ ?_<;>first|intro h|simp)|fail)
    all_goals first
     |(exfalso;omega)
     |(refine⟨h2,fun j' hj'=>?_,qaa (nx:=0) (k:=0) (ns:=[]) (ks:=[12,11,3,0]) [] rfl (by simp) (by kernel_rfl)⟩
       rcases Nat.lt_succ_iff_lt_or_eq.1 hj' with h'|rfl
       ·exact hCi j' h'
       ·exact⟨hb0,fun k hk hik=>hC2 k hk hik (by omega)⟩)
     |trace_state
  ·exact(hst (by simp[*])).symm
  ·have e1:qzk l[i] b=true:= ‹(decide (l[i].x=b.x)&&(decide (l[i].y=b.y)&&true))=true›
   exact(hst (by simp[*])).symm
 ·repeat'(first|refine zQ ?_|(refine zI ?_;intro hlt)|(refine zC ?_ ?_<;>first|intro h|simp)|refine zE ?_|fail)
  all_goals first
   |(exfalso;omega)
   |exact(ql5 (fun j hj=>(hC j (by omega)).1) fun j hj k hk hjk=>(hC j (by omega)).2 k hk hjk).symm
   |trace_state
end Go.Pv.Geo
namespace Go.Pv.Ord
variable {n:Nat}{R p:Nat→Nat→Int}
def nx(R:Nat→Nat→Int)(s k:Nat):Bool:= !s.testBit k&&decide (R s k=0)
def ordL(n:Nat)(R:Nat→Nat→Int):Nat→Nat→List (List Nat)
 |0,_=>[[]]
 |m+1,s=>(List.range n).flatMap fun k=>if nx R s k=true then(ordL n R m (s|||2^k)).map (k:: ·)else []
def qld(p:Nat→Nat→Int):Nat→List Nat→Int
 |_,[]=>0
 |s,k::r=>p s k+qld p (s|||2^k) r
def upd(cur v:Option Int):Option Int:=match v with
 |none=>cur
 |some x=>match cur with
  |none=>some x
  |some c=>if x<c then some x else some c
def best(l:List (Option Int)):Option Int:=l.foldl upd none
def qdd(n:Nat)(R p:Nat→Nat→Int):Nat→Nat→Option Int
 |0,_=>some 0
 |m+1,s=>best ((List.range n).map fun k=>if nx R s k=true then(qdd n R p m (s|||2^k)).map (p s k+ ·)else none)
def qho(n:Nat)(R p:Nat→Nat→Int)(m s k:Nat):Option Int:=if nx R s k=true then(qdd n R p m (s|||2^k)).map (p s k+ ·)else none
theorem qiQ(m s:Nat):qdd n R p (m+1) s=best ((List.range n).map (qho n R p m s)):=rfl
def qbd(n:Nat)(R p:Nat→Nat→Int):Nat→Nat→List Nat
 |0,_=>[]
 |m+1,s=>match(List.range n).find? fun k=>decide (qho n R p m s k=qdd n R p (m+1) s)with
  |some k=>k::qbd n R p m (s|||2^k)
  |none=>[]
def qnr{α:Type}(f:α→Int)(l:List α)(x:α):Prop:=∃l1 l2,l=l1++x::l2∧(∀y∈l1,f x<f y)∧∀y∈l2,f x≤f y
theorem qpb(l:List (Option Int))(v:Option Int):best (l++[v])=upd (best l) v:=by simp[best]
theorem qyK{α:Type}{P:List α→Prop}(h0:P [])(h1:∀l a,P l→P (l++[a]))(l:List α):P l:=by
 have key:∀l:List α,P l.reverse:=fun l=>by
  induction l with
  |nil=>exact h0
  |cons a l ih=>rw[List.reverse_cons];exact h1 _ _ ih
 have:=key l.reverse
 rwa[List.reverse_reverse]at this
theorem qyL{α β:Type}{f:β→Int}{v:α→Option Int}{L:α→List β}{x:α→β}(hn:∀k,v k=none→L k=[])(hs:∀k c,v k=some c→qnr f (L k) (x k)∧f (x k)=c):∀(ks:List α),
  (best (ks.map v)=none→ks.flatMap L=[]∧∀k∈ks,v k=none)∧∀c,best (ks.map v)=some c→∃k,ks.find? (fun k=>decide (v k=some c))=some k∧qnr f (ks.flatMap L) (x k)∧f (x k)=c∧∀y∈ks.flatMap L,c≤f y:=by
 refine qyK ⟨fun _=>⟨rfl,by simp⟩,fun c h=>by simp[best]at h⟩ ?_
 ·intro ks k ih
  obtain⟨ih0,ih1⟩:=ih
  rw[List.map_append,List.map_singleton,qpb,List.flatMap_append,List.flatMap_singleton]
  cases hv:v k with
  |none=>
   rw[hn k hv,List.append_nil]
   refine⟨fun h=>?_,fun c h=>?_⟩
   ·obtain⟨h1,h2⟩:=ih0 h
    refine⟨h1,fun j hj=>?_⟩
    rcases List.mem_append.1 hj with hj|hj
    ·exact h2 j hj
    ·rw[List.mem_singleton.1 hj];exact hv
   ·obtain⟨j,h1,h2⟩:=ih1 c h
    exact⟨j,by rw[List.find?_append,h1];rfl,h2⟩
  |some c'=>
   obtain⟨hm,hf⟩:=hs k c' hv
   have hge:∀y∈L k,c'≤f y:=fun y hy=>by
    obtain⟨l1,l2,e,h1,h2⟩:=hm
    rw[e]at hy
    rcases List.mem_append.1 hy with hy|hy
    ·have:=h1 y hy;omega
    ·rcases List.mem_cons.1 hy with rfl|hy
     ·omega
     ·have:=h2 y hy;omega
   refine⟨fun h=>?_,fun c h=>?_⟩
   ·simp only[upd]at h
    split at h
    ·cases h
    ·split at h<;>cases h
   ·cases hb:best (ks.map v)with
    |none=>
     obtain⟨h1,h2⟩:=ih0 hb
     rw[hb]at h
     simp only[upd,Option.some.injEq]at h
     subst h
     refine⟨k,?_,?_,hf,?_⟩
     ·rw[List.find?_append]
      have:ks.find? (fun k=>decide (v k=some c'))=none:=by
       rw[List.find?_eq_none]
       intro j hj
       simp[h2 j hj]
      rw[this]
      simp[hv]
     ·rw[h1,List.nil_append];exact hm
     ·rw[h1,List.nil_append];exact hge
    |some c0=>
     obtain⟨j,h1,h2,h3,h4⟩:=ih1 c0 hb
     rw[hb]at h
     simp only[upd]at h
     split at h
     ·rename_i hlt
      injection h with h
      subst h
      refine⟨k,?_,?_,hf,fun y hy=>?_⟩
      ·rw[List.find?_append]
       have:ks.find? (fun k=>decide (v k=some c'))=none:=by
        rw[List.find?_eq_none]
        intro i hi hd
        have hd:=of_decide_eq_true hd
        obtain⟨hm',hf'⟩:=hs i c' hd
        obtain⟨l1,l2,e,_⟩:=hm'
        have:=h4 (x i) (List.mem_flatMap.2 ⟨i,hi,by rw[e];simp⟩)
        omega
       rw[this]
       simp[hv]
      ·obtain⟨l1,l2,e,g1,g2⟩:=hm
       refine⟨ks.flatMap L++l1,l2,by rw[e];simp,fun y hy=>?_,g2⟩
       rcases List.mem_append.1 hy with hy|hy
       ·have:=h4 y hy;omega
       ·exact g1 y hy
      ·rcases List.mem_append.1 hy with hy|hy
       ·have:=h4 y hy;omega
       ·exact hge y hy
     ·rename_i hlt
      injection h with h
      subst h
      refine⟨j,by rw[List.find?_append,h1];rfl,?_,h3,fun y hy=>?_⟩
      ·obtain⟨l1,l2,e,g1,g2⟩:=h2
       refine⟨l1,l2++L k,by rw[e];simp,g1,fun y hy=>?_⟩
       rcases List.mem_append.1 hy with hy|hy
       ·exact g2 y hy
       ·have:=hge y hy;omega
      ·rcases List.mem_append.1 hy with hy|hy
       ·exact h4 y hy
       ·have:=hge y hy;omega
theorem qe3:∀(m s:Nat),(qdd n R p m s=none→ordL n R m s=[])∧∀c,qdd n R p m s=some c→qnr (qld p s) (ordL n R m s) (qbd n R p m s)∧qld p s (qbd n R p m s)=c
 |0,s=>⟨fun h=>by simp[qdd]at h,fun c h=>by
   simp only[qdd,Option.some.injEq]at h
   subst h
   exact⟨⟨[],[],rfl,by simp,by simp⟩,rfl⟩⟩
 |m+1,s=>by
  have key:=qyL (f:=qld p s) (v:=qho n R p m s) (L:=fun k=>if nx R s k=true then(ordL n R m (s|||2^k)).map (k:: ·)else []) (x:=fun k=>k::qbd n R p m (s|||2^k)) (fun k h=>by
   simp only[qho]at h
   split
   ·rename_i hk
    rw[if_pos hk,Option.map_eq_none_iff]at h
    rw[(qe3 m (s|||2^k)).1 h]
    rfl
   ·rfl) (fun k c h=>by
   simp only[qho]at h
   split at h
   ·rename_i hk
    obtain⟨q,hq,rfl⟩:=Option.map_eq_some_iff.1 h
    obtain⟨⟨l1,l2,e,g1,g2⟩,g3⟩:=(qe3 m (s|||2^k)).2 q hq
    rw[if_pos hk]
    refine⟨⟨l1.map (k:: ·),l2.map (k:: ·),by rw[e];simp,fun y hy=>?_,fun y hy=>?_⟩,by simp only[qld,g3]⟩
    ·obtain⟨z,hz,rfl⟩:=List.mem_map.1 hy
     have:=g1 z hz
     simp only[qld];omega
    ·obtain⟨z,hz,rfl⟩:=List.mem_map.1 hy
     have:=g2 z hz
     simp only[qld];omega
   ·cases h) (List.range n)
  rw[qiQ]
  refine⟨fun h=>(key.1 h).1,fun c h=>?_⟩
  obtain⟨k,h1,h2,h3,_⟩:=key.2 c h
  have e:qbd n R p (m+1) s=k::qbd n R p m (s|||2^k):=by
   simp only[qbd,qiQ,h]
   rw[h1]
  rw[e]
  exact⟨h2,h3⟩
end Go.Pv.Ord

import Derived.Test.YtfklpkgdobdbpaaGreatCAJ
/- Part of the proofs over YtfklpkgdobdbpaaGreat: S20, S22. -/
set_option linter.unusedVariables false
set_option linter.unusedSimpArgs false
set_option linter.unnecessarySimpa false
open Go Go.Proofs Go.Pv
set_option maxHeartbeats 8000000
set_option maxRecDepth 100000
set_option linter.unusedSimpArgs false
set_option linter.unusedVariables false
namespace Go.Pv.Soil
instance qLU:TEq Tryz.prog 256 [.s,.i,.i]:=⟨by kernel_rfl⟩
theorem c51(g:Ground)(hg:OkG g)(p:Pt)(hp:ptOK p=true)(f t:Int):Contract Tryz.prog 187 [.agg (qam g),.agg (encPt p),.int .i64 f,.int .i64 t] (.ret (.fr 3 ((qaI g p f t).map qbH))):=by
 have hn:=qe9 (p:=p) hg.n.1
 have hb20:=hg.n
 have hll:=(hg.bor _ hn).len
 refine zT mix Tryz.func187 Tryz.ntmps187 Tryz.results187 rfl rfl rfl ?_;simp only[qab,Nat.reduceAdd]
 repeat'(first|((with_reducible apply qaj);rfl;(exact c47 g hg p hp);rfl)|refine zQ ?_|(refine zI ?_;intro hlt)|fail)
 refine qad g.borings[qbq g p].layers.length (fun i=>⟨[(10,.os 1 0 (qiQ g.borings[qbq g p] f t i).length),(11,.int .i64 i),(9,.sl (g.borings[qbq g p].layers.map qeZ)),(2,.int .i64 f),(3,.int .i64 t)],[(1,⟨3,true,(qiQ g.borings[qbq g p] f t i).map qbH⟩)],32,67⟩) (fun i=>True) (qaa (nx:=32) (k:=3) (ns:=[(10,1)]) (ks:=[11,9,2,3]) [] rfl (by simp;rfl) rfl) trivial ?_
 intro i hi hC
 repeat'(first|refine zQ ?_|(refine zI ?_;intro hlt)|(refine zC ?_ ?_<;>first|intro h|simp)|fail)
 all_goals first
  |(refine qaH (f:=qbH) (a:=⟨_,_,_⟩) (l:=qiQ g.borings[qbq g p] f t i) qii rfl rfl rfl rfl rfl rfl (by kernel_rfl) (by kernel_rfl) (by have:=qij g.borings[qbq g p] f t i;omega) rfl ?_)
  |skip
 repeat'(first|refine zQ ?_|fail)
 all_goals try
  have h2:i<g.borings[qbq g p].layers.length:=by omega
  have e1:((i:Int)+1).toNat=i+1:=by omega
  simp only[e1]at*
  refine⟨h2,trivial,?_⟩
  first
   |(have e:=qsG (f:=f) (t:=t) h h2 (by rw[qgQ h2];first|rw[if_pos (by omega)]|rw[if_neg (by omega)]) (by rw[qgR];first|rw[dif_pos (by omega)]|rw[dif_neg (by omega)])
     have el:(qiQ g.borings[qbq g p] f t i).length+1=(qiQ g.borings[qbq g p] f t (i+1)).length:=by rw[←e];simp
     rw[e,el]
     exact qaa (nx:=32) (k:=3) (ns:=[]) (ks:=[10,11,9,2,3]) [(1,1)] rfl (by simp) rfl)
   |(rw[←qw9 (f:=f) (t:=t) h (by rw[qgQ h2];first|rw[if_pos (by omega)]|rw[if_neg (by omega)]) (by rw[qgR];first|rw[dif_pos (by omega)]|rw[dif_neg (by omega)])]
     exact qaa (nx:=32) (k:=3) (ns:=[]) (ks:=[10,11,9,2,3]) [(1,1)] rfl (by simp) rfl)
 refine qpp rfl rfl ?_
 simp only[qaI,List.getElem?_eq_getElem hn]
 congr 1;omega
theorem qHW{s:List Soil}{b:Boring}(hb:OkBoring s b){i:Nat}:∀{j:Nat} (h:i<j) (hj:j<b.layers.length),b.layers[j].top<(b.layers[i]'(by omega)).top
 |j+1,h,hj=>by
  have h1:=(hb.lay (j+1) hj).2.2 (by omega)
  by_cases he:i=j
  ·subst he;exact h1
  ·exact Int.lt_trans h1 (qHW hb (j:=j) (by omega) (by omega))
def lev(f:Int)(l:List Part):Nat→Int
 |0=>f
 |i+1=>match l[i]? with
  |some x=>x.bottom
  |none=>0
theorem qCM{f:Int}{l:List Part}{x:Part}:∀{i:Nat},i≤l.length→lev f (l++[x]) i=lev f l i
 |0,_=>rfl
 |i+1,h=>by
  show(match(l++[x])[i]? with|some x=>x.bottom|none=>0)=_
  rw[List.getElem?_append_left (by omega)]
  rfl
theorem qzO{f:Int}{l:List Part}{i:Nat}(h:i<l.length):lev f l (i+1)=l[i].bottom:=by
 show(match l[i]? with|some x=>x.bottom|none=>0)=_
 rw[List.getElem?_eq_getElem h]
structure Good(b:Boring)(f t:Int)(l:List Part)(e:Int):Prop where
 chain:∀i (h:i<l.length),l[i].top=lev f l i∧l[i].bottom<l[i].top
 last:lev f l l.length=e
 all:∀i (h:i<l.length),t≤l[i].bottom∧l[i].top≤f∧∃k,k<b.layers.length∧l[i]=qcL b f t k
def qxa(b:Boring)(f t:Int)(n:Nat):Int:=if n=0 then f else if h:n<b.layers.length then max t (min f b.layers[n].top)else t
theorem qsH{b:Boring}{f t:Int}{n:Nat}:t≤(qcL b f t n).bottom∧(qcL b f t n).top≤f:=by
 simp only[qcL]
 constructor<;>split<;>omega
theorem qsI{s:List Soil}{b:Boring}(hb:OkBoring s b){f t:Int}(htf:t≤f):∀n,n≤b.layers.length→Good b f t (qiQ b f t n) (qxa b f t n)
 |0,_=>⟨fun i h=>absurd h (Nat.not_lt_zero _),rfl,fun i h=>absurd h (Nat.not_lt_zero _)⟩
 |n+1,hn=>by
  have ih:=qsI hb htf n (by omega)
  have hlt:n<b.layers.length:=hn
  have e1:=qgQ (f:=f) (t:=t) hlt
  have e2:=qgR (b:=b) (f:=f) (t:=t) (i:=n)
  have hbd:=qsH (b:=b) (f:=f) (t:=t) (n:=n)
  have ht:∀h:n+1<b.layers.length,b.layers[n+1].top<b.layers[n].top:=fun h=>qHW hb (by omega) h
  have hE:qxa b f t (n+1)=if h:n+1<b.layers.length then max t (min f b.layers[n+1].top)else t:=by
   unfold qxa;rw[if_neg (by omega)]
  have hE0:qxa b f t n=if n=0 then f else max t (min f b.layers[n].top):=by
   unfold qxa;rw[dif_pos hlt]
  simp only[qiQ]
  split
  ·rename_i h
   have htop:(qcL b f t n).top=qxa b f t n:=by
    rw[hE0,e1]
    by_cases h0:n=0
    ·rw[if_pos h0,if_neg (by omega)]
    ·rw[if_neg h0,if_pos (by omega)]
     rw[e1,if_pos (by omega)]at h
     omega
   have hbot:(qcL b f t n).bottom=qxa b f t (n+1):=by
    rw[hE]
    by_cases h1:n+1<b.layers.length
    ·rw[e2,dif_pos h1,dif_pos h1]
     rw[e2,dif_pos h1]at h
     omega
    ·rw[e2,dif_neg h1,dif_neg h1]
   refine⟨fun i hi=>?_,?_,fun i hi=>?_⟩
   ·rw[List.length_append,List.length_singleton]at hi
    rw[qCM (by omega)]
    by_cases he:i=(qiQ b f t n).length
    ·subst he
     simp only[List.getElem_concat_length]
     exact⟨by rw[htop,ih.last],h⟩
    ·rw[List.getElem_append_left (by omega)]
     exact ih.chain i (by omega)
   ·rw[List.length_append,List.length_singleton,qzO (by simp)]
    simp only[List.getElem_concat_length]
    exact hbot
   ·rw[List.length_append,List.length_singleton]at hi
    by_cases he:i=(qiQ b f t n).length
    ·subst he
     simp only[List.getElem_concat_length]
     exact⟨hbd.1,hbd.2,n,hlt,rfl⟩
    ·rw[List.getElem_append_left (by omega)]
     exact ih.all i (by omega)
  ·rename_i h
   have hsame:qxa b f t n=qxa b f t (n+1):=by
    rw[hE,hE0]
    by_cases h1:n+1<b.layers.length
    ·have:=ht h1
     rw[dif_pos h1]
     rw[e2,dif_pos h1,e1]at h
     by_cases h0:n=0
     ·rw[if_neg (by omega)]at h
      rw[if_pos h0];omega
     ·rw[if_pos (by omega)]at h
      rw[if_neg h0];omega
    ·rw[dif_neg h1]
     rw[e2,dif_neg h1,e1]at h
     by_cases h0:n=0
     ·rw[if_neg (by omega)]at h
      rw[if_pos h0];omega
     ·rw[if_pos (by omega)]at h
      rw[if_neg h0];omega
   rw[←hsame]
   exact ih
theorem qu0{s:List Soil}{b:Boring}(hb:OkBoring s b){f t lv:Int}{k:Nat}(hk:k<b.layers.length)(h1:(qcL b f t k).bottom<lv)(h2:lv≤(qcL b f t k).top):qBm b lv=k:=by
 rw[qgR]at h1
 rw[qgQ hk]at h2
 have hall:∀j,k<j→j<b.layers.length→qzL b lv j=false:=by
  intro j hj hl
  rw[qsF hl]
  have h3:k+1<b.layers.length:=by omega
  rw[dif_pos h3]at h1
  by_cases he:j=k+1
  ·subst he;simp;omega
  ·have:=qHW hb (i:=k+1) (j:=j) (by omega) hl
   simp;omega
 by_cases h0:k=0
 ·subst h0
  exact qm7 fun j h h'=>hall j h h'
 ·rw[if_pos (by omega)]at h2
  exact qsE hk (by rw[qsF hk];simp;omega) hall
theorem qzP{s:List Soil}{b:Boring}(hb:OkBoring s b){f t:Int}:qxa b f t b.layers.length=t:=by
 have:=hb.len
 unfold qxa
 rw[if_neg (by omega),dif_neg (by omega)]
theorem qzQ{g:Ground}(hg:OkG g){p:Pt}{f t:Int}(htf:t≤f):
  (∀i (h:i<(qaI g p f t).length),(qaI g p f t)[i].top=lev f (qaI g p f t) i∧(qaI g p f t)[i].bottom<(qaI g p f t)[i].top∧t≤(qaI g p f t)[i].bottom∧(qaI g p f t)[i].top≤f∧∀lv,(qaI g p f t)[i].bottom<lv→lv≤(qaI g p f t)[i].top→qBn g p lv=(qaI g p f t)[i].soil)∧lev f (qaI g p f t) (qaI g p f t).length=t:=by
 have hn:=qe9 (p:=p) hg.n.1
 have hb:=hg.bor _ hn
 have e:qaI g p f t=qiQ g.borings[qbq g p] f t g.borings[qbq g p].layers.length:=by
  simp only[qaI,List.getElem?_eq_getElem hn]
 rw[e]
 have hG:=qsI hb htf g.borings[qbq g p].layers.length (Nat.le_refl _)
 refine⟨fun i h=>?_,by rw[hG.last,qzP hb]⟩
 obtain⟨h1,h2⟩:=hG.chain i h
 obtain⟨h3,h4,k,hk,hx⟩:=hG.all i h
 refine⟨h1,h2,h3,h4,fun lv h5 h6=>?_⟩
 rw[hx]at h5 h6 ⊢
 have hl:=qu0 hb hk h5 h6
 simp only[qBn,List.getElem?_eq_getElem hn,hl,List.getElem?_eq_getElem hk,qlo hk]
theorem qkj{n m:Int}(hm:0<m):n%m=n.tmod m%m∧ -m<n.tmod m∧n.tmod m<m:=by
 refine⟨?_,?_,?_⟩
 ·conv=>lhs;rw[←Int.tmod_add_mul_tdiv n m]
  rw[Int.add_mul_emod_self_left]
 ·have:=Int.lt_tmod_of_pos n hm;omega
 ·exact Int.tmod_lt_of_pos n hm
theorem c44(n m:Int)(hm:0<m∧m≤4611686018427387904):Contract Tryz.prog 154 [.int .i64 n,.int .i64 m] (.ret (.int .i64 (n%m))):=by
 obtain⟨h1,h2,h3⟩:=qkj (n:=n) hm.1
 refine zT mix Tryz.func154 Tryz.ntmps154 Tryz.results154 rfl rfl rfl ?_;simp only[qab,Nat.reduceAdd]
 repeat'(first|refine zQ ?_|(refine zC ?_ ?_<;>first|intro h|simp)|refine zE ?_|fail)
 ·first|rw[qkY (by omega)]|skip
  rw[h1,←Int.add_emod_right (n.tmod m) m,Int.emod_eq_of_lt (by omega) (by omega)]
 ·rw[h1,Int.emod_eq_of_lt (by omega) (by omega)]
end Go.Pv.Soil

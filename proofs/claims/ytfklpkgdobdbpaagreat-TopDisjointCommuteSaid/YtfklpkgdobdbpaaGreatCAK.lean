import Derived.Test.YtfklpkgdobdbpaaGreatCAJ
/- Part of the proofs over YtfklpkgdobdbpaaGreat: S20, S22, S23. -/
set_option linter.unusedVariables false
set_option linter.unusedSimpArgs false
set_option linter.unnecessarySimpa false
open Go Go.Proofs Go.Pv
set_option maxHeartbeats 8000000
set_option maxRecDepth 100000
set_option linter.unusedSimpArgs false
set_option linter.unusedVariables false
namespace Go.Pv.Soil
instance qJB:TEq Tryz.prog 256 [.s,.i,.i]:=⟨by kernel_rfl⟩
theorem c51(g:Ground)(hg:OkG g)(p:Pt)(hp:ptOK p=true)(f t:Int):Contract Tryz.prog 187 [.agg (qam g),.agg (encPt p),.int .i64 f,.int .i64 t] (.ret (.fr 3 ((qaD g p f t).map qbt))):=by
 have hn:=qeJ (p:=p) hg.n.1
 have hb20:=hg.n
 have hll:=(hg.bor _ hn).len
 refine zT mix Tryz.func187 Tryz.ntmps187 Tryz.results187 rfl rfl rfl ?_;simp only[qac,Nat.reduceAdd]
 repeat'(first|((with_reducible apply qaj);rfl;(exact c47 g hg p hp);rfl)|refine zQ ?_|(refine zI ?_;intro hlt)|fail)
 refine qaf g.borings[qbg g p].layers.length (fun i=>⟨[(10,.os 1 0 (qij g.borings[qbg g p] f t i).length),(11,.int .i64 i),(9,.sl (g.borings[qbg g p].layers.map qeB)),(2,.int .i64 f),(3,.int .i64 t)],[(1,⟨3,true,(qij g.borings[qbg g p] f t i).map qbt⟩)],32,67⟩) (fun i=>True) (qaa (nx:=32) (k:=3) (ns:=[(10,1)]) (ks:=[11,9,2,3]) [] rfl (by simp;rfl) rfl) trivial ?_
 intro i hi hC
 repeat'(first|refine zQ ?_|(refine zI ?_;intro hlt)|(refine zC ?_ ?_<;>first|intro h|simp)|fail)
 all_goals first
  |(refine qaE (f:=qbt) (a:=⟨_,_,_⟩) (l:=qij g.borings[qbg g p] f t i) qhO rfl rfl rfl rfl rfl rfl (by kernel_rfl) (by kernel_rfl) (by have:=qhP g.borings[qbg g p] f t i;omega) rfl ?_)
  |skip
 repeat'(first|refine zQ ?_|fail)
 all_goals try
  have h2:i<g.borings[qbg g p].layers.length:=by omega
  have e1:((i:Int)+1).toNat=i+1:=by omega
  simp only[e1]at*
  refine⟨h2,trivial,?_⟩
  first
   |(have e:=qre (f:=f) (t:=t) h h2 (by rw[qgr h2];first|rw[if_pos (by omega)]|rw[if_neg (by omega)]) (by rw[qgs];first|rw[dif_pos (by omega)]|rw[dif_neg (by omega)])
     have el:(qij g.borings[qbg g p] f t i).length+1=(qij g.borings[qbg g p] f t (i+1)).length:=by rw[←e];simp
     rw[e,el]
     exact qaa (nx:=32) (k:=3) (ns:=[]) (ks:=[10,11,9,2,3]) [(1,1)] rfl (by simp) rfl)
   |(rw[←qvf (f:=f) (t:=t) h (by rw[qgr h2];first|rw[if_pos (by omega)]|rw[if_neg (by omega)]) (by rw[qgs];first|rw[dif_pos (by omega)]|rw[dif_neg (by omega)])]
     exact qaa (nx:=32) (k:=3) (ns:=[]) (ks:=[10,11,9,2,3]) [(1,1)] rfl (by simp) rfl)
 refine qok rfl rfl ?_
 simp only[qaD,List.getElem?_eq_getElem hn]
 congr 1;omega
theorem qFK{s:List Soil}{b:Boring}(hb:OkBoring s b){i:Nat}:∀{j:Nat} (h:i<j) (hj:j<b.layers.length),b.layers[j].top<(b.layers[i]'(by omega)).top
 |j+1,h,hj=>by
  have h1:=(hb.lay (j+1) hj).2.2 (by omega)
  by_cases he:i=j
  ·subst he;exact h1
  ·exact Int.lt_trans h1 (qFK hb (j:=j) (by omega) (by omega))
def lev(f:Int)(l:List Part):Nat→Int
 |0=>f
 |i+1=>match l[i]? with
  |some x=>x.bottom
  |none=>0
theorem qAG{f:Int}{l:List Part}{x:Part}:∀{i:Nat},i≤l.length→lev f (l++[x]) i=lev f l i
 |0,_=>rfl
 |i+1,h=>by
  show(match(l++[x])[i]? with|some x=>x.bottom|none=>0)=_
  rw[List.getElem?_append_left (by omega)]
  rfl
theorem qxU{f:Int}{l:List Part}{i:Nat}(h:i<l.length):lev f l (i+1)=l[i].bottom:=by
 show(match l[i]? with|some x=>x.bottom|none=>0)=_
 rw[List.getElem?_eq_getElem h]
structure Good(b:Boring)(f t:Int)(l:List Part)(e:Int):Prop where
 chain:∀i (h:i<l.length),l[i].top=lev f l i∧l[i].bottom<l[i].top
 last:lev f l l.length=e
 all:∀i (h:i<l.length),t≤l[i].bottom∧l[i].top≤f∧∃k,k<b.layers.length∧l[i]=qcu b f t k
def qvg(b:Boring)(f t:Int)(n:Nat):Int:=if n=0 then f else if h:n<b.layers.length then max t (min f b.layers[n].top)else t
theorem qrf{b:Boring}{f t:Int}{n:Nat}:t≤(qcu b f t n).bottom∧(qcu b f t n).top≤f:=by
 simp only[qcu]
 constructor<;>split<;>omega
theorem qrg{s:List Soil}{b:Boring}(hb:OkBoring s b){f t:Int}(htf:t≤f):∀n,n≤b.layers.length→Good b f t (qij b f t n) (qvg b f t n)
 |0,_=>⟨fun i h=>absurd h (Nat.not_lt_zero _),rfl,fun i h=>absurd h (Nat.not_lt_zero _)⟩
 |n+1,hn=>by
  have ih:=qrg hb htf n (by omega)
  have hlt:n<b.layers.length:=hn
  have e1:=qgr (f:=f) (t:=t) hlt
  have e2:=qgs (b:=b) (f:=f) (t:=t) (i:=n)
  have hbd:=qrf (b:=b) (f:=f) (t:=t) (n:=n)
  have ht:∀h:n+1<b.layers.length,b.layers[n+1].top<b.layers[n].top:=fun h=>qFK hb (by omega) h
  have hE:qvg b f t (n+1)=if h:n+1<b.layers.length then max t (min f b.layers[n+1].top)else t:=by
   unfold qvg;rw[if_neg (by omega)]
  have hE0:qvg b f t n=if n=0 then f else max t (min f b.layers[n].top):=by
   unfold qvg;rw[dif_pos hlt]
  simp only[qij]
  split
  ·rename_i h
   have htop:(qcu b f t n).top=qvg b f t n:=by
    rw[hE0,e1]
    by_cases h0:n=0
    ·rw[if_pos h0,if_neg (by omega)]
    ·rw[if_neg h0,if_pos (by omega)]
     rw[e1,if_pos (by omega)]at h
     omega
   have hbot:(qcu b f t n).bottom=qvg b f t (n+1):=by
    rw[hE]
    by_cases h1:n+1<b.layers.length
    ·rw[e2,dif_pos h1,dif_pos h1]
     rw[e2,dif_pos h1]at h
     omega
    ·rw[e2,dif_neg h1,dif_neg h1]
   refine⟨fun i hi=>?_,?_,fun i hi=>?_⟩
   ·rw[List.length_append,List.length_singleton]at hi
    rw[qAG (by omega)]
    by_cases he:i=(qij b f t n).length
    ·subst he
     simp only[List.getElem_concat_length]
     exact⟨by rw[htop,ih.last],h⟩
    ·rw[List.getElem_append_left (by omega)]
     exact ih.chain i (by omega)
   ·rw[List.length_append,List.length_singleton,qxU (by simp)]
    simp only[List.getElem_concat_length]
    exact hbot
   ·rw[List.length_append,List.length_singleton]at hi
    by_cases he:i=(qij b f t n).length
    ·subst he
     simp only[List.getElem_concat_length]
     exact⟨hbd.1,hbd.2,n,hlt,rfl⟩
    ·rw[List.getElem_append_left (by omega)]
     exact ih.all i (by omega)
  ·rename_i h
   have hsame:qvg b f t n=qvg b f t (n+1):=by
    rw[hE,hE0]
    by_cases h1:n+1<b.layers.length
    ·have:=ht h1
     rw[dif_pos h1]
     rw[e2,dif_pos h1,e1]at h
     by_cases h0:n=0
     ·rw[if_neg (by omega)]at h
      rw[if_pos h0];omega
     ·rw[if_pos (by omega)]at h
      rw[if_neg h0];omega
    ·rw[dif_neg h1]
     rw[e2,dif_neg h1,e1]at h
     by_cases h0:n=0
     ·rw[if_neg (by omega)]at h
      rw[if_pos h0];omega
     ·rw[if_pos (by omega)]at h
      rw[if_neg h0];omega
   rw[←hsame]
   exact ih
theorem qtd{s:List Soil}{b:Boring}(hb:OkBoring s b){f t lv:Int}{k:Nat}(hk:k<b.layers.length)(h1:(qcu b f t k).bottom<lv)(h2:lv≤(qcu b f t k).top):qzh b lv=k:=by
 rw[qgs]at h1
 rw[qgr hk]at h2
 have hall:∀j,k<j→j<b.layers.length→qxR b lv j=false:=by
  intro j hj hl
  rw[qrd hl]
  have h3:k+1<b.layers.length:=by omega
  rw[dif_pos h3]at h1
  by_cases he:j=k+1
  ·subst he;simp;omega
  ·have:=qFK hb (i:=k+1) (j:=j) (by omega) hl
   simp;omega
 by_cases h0:k=0
 ·subst h0
  exact ql3 fun j h h'=>hall j h h'
 ·rw[if_pos (by omega)]at h2
  exact qrc hk (by rw[qrd hk];simp;omega) hall
theorem qxV{s:List Soil}{b:Boring}(hb:OkBoring s b){f t:Int}:qvg b f t b.layers.length=t:=by
 have:=hb.len
 unfold qvg
 rw[if_neg (by omega),dif_neg (by omega)]
theorem qxW{g:Ground}(hg:OkG g){p:Pt}{f t:Int}(htf:t≤f):
  (∀i (h:i<(qaD g p f t).length),(qaD g p f t)[i].top=lev f (qaD g p f t) i∧(qaD g p f t)[i].bottom<(qaD g p f t)[i].top∧t≤(qaD g p f t)[i].bottom∧(qaD g p f t)[i].top≤f∧∀lv,(qaD g p f t)[i].bottom<lv→lv≤(qaD g p f t)[i].top→qzi g p lv=(qaD g p f t)[i].soil)∧lev f (qaD g p f t) (qaD g p f t).length=t:=by
 have hn:=qeJ (p:=p) hg.n.1
 have hb:=hg.bor _ hn
 have e:qaD g p f t=qij g.borings[qbg g p] f t g.borings[qbg g p].layers.length:=by
  simp only[qaD,List.getElem?_eq_getElem hn]
 rw[e]
 have hG:=qrg hb htf g.borings[qbg g p].layers.length (Nat.le_refl _)
 refine⟨fun i h=>?_,by rw[hG.last,qxV hb]⟩
 obtain⟨h1,h2⟩:=hG.chain i h
 obtain⟨h3,h4,k,hk,hx⟩:=hG.all i h
 refine⟨h1,h2,h3,h4,fun lv h5 h6=>?_⟩
 rw[hx]at h5 h6 ⊢
 have hl:=qtd hb hk h5 h6
 simp only[qzi,List.getElem?_eq_getElem hn,hl,List.getElem?_eq_getElem hk,qkE hk]
theorem qjE{n m:Int}(hm:0<m):n%m=n.tmod m%m∧ -m<n.tmod m∧n.tmod m<m:=by
 refine⟨?_,?_,?_⟩
 ·conv=>lhs;rw[←Int.tmod_add_mul_tdiv n m]
  rw[Int.add_mul_emod_self_left]
 ·have:=Int.lt_tmod_of_pos n hm;omega
 ·exact Int.tmod_lt_of_pos n hm
theorem c44(n m:Int)(hm:0<m∧m≤4611686018427387904):Contract Tryz.prog 154 [.int .i64 n,.int .i64 m] (.ret (.int .i64 (n%m))):=by
 obtain⟨h1,h2,h3⟩:=qjE (n:=n) hm.1
 refine zT mix Tryz.func154 Tryz.ntmps154 Tryz.results154 rfl rfl rfl ?_;simp only[qac,Nat.reduceAdd]
 repeat'(first|refine zQ ?_|(refine zC ?_ ?_<;>first|intro h|simp)|refine zE ?_|fail)
 ·first|rw[qkf (by omega)]|skip
  rw[h1,←Int.add_emod_right (n.tmod m) m,Int.emod_eq_of_lt (by omega) (by omega)]
 ·rw[h1,Int.emod_eq_of_lt (by omega) (by omega)]
theorem qFL(l:List Int)(hl:l.length<1000000000000)(g:FuncId)(ys:List D)(hst:qlk ys)(hpu:qbF ys=true)(p:Int→Bool)(hf:∀x∈l,Contract Tryz.prog g (.int .i64 x::ys) (.ret (.bool (p x)))):
  Contract Tryz.prog 218 [.sl (l.map qak),.clo (.func g) [] ys] (.ret (.int .i64 (qci p l))):=by
 refine zT mix Tryz.func218 Tryz.ntmps218 Tryz.results218 rfl rfl rfl ?_;simp only[qac,Nat.reduceAdd]
 repeat'(first|refine zQ ?_|fail)
 have e8:∀i:Nat,(⟨[(8,.int .i64 i),(7,.int .i64 l.length),(0,.sl (l.map qak)),(1,.clo (.func g) [] (qgI [] ys))],[],0,19⟩:St)=⟨[(8,.int .i64 i),(7,.int .i64 l.length),(0,.sl (l.map qak)),(1,.clo (.func g) [] ys)],[],0,19⟩:=fun i=>by rw[qbr hpu]
 refine qaf l.length (fun i=>⟨[(8,.int .i64 i),(7,.int .i64 l.length),(0,.sl (l.map qak)),(1,.clo (.func g) [] ys)],[],0,19⟩) (fun i=>∀j (hj:j<i) (hj':j<l.length),p l[j]=false) (qaa (k:=0) (ns:=[]) (ks:=[8,7,0,1]) [] rfl (by simp) (e8 _)) (by omega) ?_
 intro i hi hC
 repeat'(first|refine zQ ?_|(refine zI ?_;intro hlt)|(refine zC ?_ ?_<;>first|intro h|simp)|refine zE ?_|fail)
 ·refine qaW rfl rfl hst (hf l[i] (List.getElem_mem _)) rfl ?_
  repeat'(first|refine zQ ?_|(refine zC ?_ ?_<;>first|intro h|simp)|refine zE ?_|fail)
  ·have h2:i<l.length:=by omega
   exact(qaY h2 h fun j hj=>hC j hj (by omega)).symm
  ·have h2:i<l.length:=by omega
   refine⟨by omega,fun j hj hj'=>?_,qaa (k:=0) (ns:=[]) (ks:=[8,7,0,1]) [] rfl (by simp) (e8 _)⟩
   rcases Nat.lt_succ_iff_lt_or_eq.1 hj with h'|rfl
   ·exact hC j h' hj'
   ·exact h
 ·refine(qa7 fun x hx=>?_).symm
  obtain⟨j,hj,rfl⟩:=List.mem_iff_getElem.1 hx
  exact hC j (by omega) hj
theorem qAH(l:List Int)(hl:l.length<1000000000000)(g:FuncId)(ys:List D)(hst:qlk ys)(hpu:qbF ys=true)(p:Int→Bool)(hf:∀x∈l,Contract Tryz.prog g (.int .i64 x::ys) (.ret (.bool (p x)))):
  Contract Tryz.prog 157 [.sl (l.map qak),.clo (.func g) [] ys] (.ret (.bool (l.any p))):=by
 refine zT mix Tryz.func157 Tryz.ntmps157 Tryz.results157 rfl rfl rfl ?_;simp only[qac,Nat.reduceAdd]
 repeat'(first|refine zQ ?_|fail)
 refine qaj (args':=[.sl (l.map qak),.clo (.func g) [] ys]) ?_ (qFL l hl g ys hst hpu p hf) rfl ?_
 ·have e:=hst (lkH []) 45
  simp only[List.map_cons,List.map_nil,qab,lkE,qbQ,pur,Option.bind_some,Option.map_some,Nat.reduceEqDiff,if_true,if_false,e]
 repeat'(first|refine zA ?_|refine zE ?_|fail)
 exact qcI
theorem qJC(n lo hi:Int):Contract Tryz.prog 219 [.int .i64 n,.ptr [.int .i64 lo],.ptr [.int .i64 hi]] (.ret (.bool (decide (n<lo∨hi<n)))):=by
 refine zT mix Tryz.func219 Tryz.ntmps219 Tryz.results219 rfl rfl rfl ?_;simp only[qac,Nat.reduceAdd]
 repeat'(first|refine zQ ?_|(refine zG ?_ ?_<;>first|intro h|simp)|refine zE ?_|fail)
 ·exact decide_eq_decide.2 (by omega)
 ·exact(decide_eq_true (.inl h)).symm
def qBW(lo hi:Int)(l:List Int):Bool:= !l.any fun n=>decide (n<lo∨hi<n)
theorem qH8(lo hi:Int)(l:List Int)(hl:l.length<1000000000000):Contract Tryz.prog 159 [.int .i64 lo,.int .i64 hi,.sl (l.map qak)] (.ret (.bool (qBW lo hi l))):=by
 refine zT mix Tryz.func159 Tryz.ntmps159 Tryz.results159 rfl rfl rfl ?_;simp only[qac,Nat.reduceAdd]
 repeat'(first|refine zQ ?_|fail)
 refine qad (args':=[.sl (l.map qak),.clo (.func 219) [] [.ptr [.int .i64 lo],.ptr [.int .i64 hi]]]) rfl (qAH l hl 219 _ (fun _ _=>rfl) rfl (fun n=>decide (n<lo∨hi<n)) fun x _=>qJC x lo hi) rfl ?_
 repeat'(first|refine zA ?_|refine zE ?_|fail)
 rfl
theorem qCR(lo hi n:Int):qBW lo hi [n]=decide (lo≤n∧n≤hi):=by
 simp only[qBW,List.any_cons,List.any_nil,Bool.or_false,←decide_not]
 exact decide_eq_decide.2 (by omega)
theorem qCS(lo hi n m:Int):qBW lo hi [n,m]=decide ((lo≤n∧n≤hi)∧(lo≤m∧m≤hi)):=by
 simp only[qBW,List.any_cons,List.any_nil,Bool.or_false,Bool.not_or,←decide_not,←Bool.decide_and]
 exact decide_eq_decide.2 (by omega)
theorem qxX(lo hi n:Int):Contract Tryz.prog 159 [.int .i64 lo,.int .i64 hi,.sl [[.int .i64 n]]] (.ret (.bool (decide (lo≤n∧n≤hi)))):=qCR lo hi n▸qH8 lo hi [n] (by simp)
theorem qzj(lo hi n m:Int):Contract Tryz.prog 159 [.int .i64 lo,.int .i64 hi,.sl [[.int .i64 n],[.int .i64 m]]] (.ret (.bool (decide ((lo≤n∧n≤hi)∧(lo≤m∧m≤hi))))):=qCS lo hi n m▸qH8 lo hi [n,m] (by simp)
theorem qJD(n:Int):Contract Tryz.prog 161 [.int .i64 n] (.ret (.bool (qhp n))):=by
 refine zT mix Tryz.func161 Tryz.ntmps161 Tryz.results161 rfl rfl rfl ?_;simp only[qac,Nat.reduceAdd]
 repeat'(first|((with_reducible apply qad);rfl;(exact qxX _ _ _);rfl)|refine zQ ?_|refine zE ?_|fail)
 rfl
def qhe(n:Int):Bool:=decide (n≠30000)&& !qhp n
theorem qJE(n:Int):Contract Tryz.prog 160 [.int .i64 n] (.ret (.bool (qhe n))):=by
 refine zT mix Tryz.func160 Tryz.ntmps160 Tryz.results160 rfl rfl rfl ?_;simp only[qac,Nat.reduceAdd]
 repeat'(first|((with_reducible apply qad);rfl;(exact qJD _);rfl)|refine zQ ?_|(refine zG ?_ ?_<;>first|intro h|simp)|refine zE ?_|fail)
 ·simp[qhe,h]
 ·simp[qhe,h]
structure Grid where
 x:Int
 y:Int
 side:Int
 cols:Int
 rows:Int
 levels:List Int
def encGrid(g:Grid):List D:=[.int .i64 g.x,.int .i64 g.y,.int .i64 g.side,.int .i64 g.cols,.int .i64 g.rows,.sl (g.levels.map qak)]
def qa8(g:Grid):Int:=
 if ¬(((-1000000≤g.x∧g.x≤1000000)∧ -1000000≤g.y∧g.y≤1000000)∧(100≤g.side∧g.side≤10000)∧(1≤g.cols∧g.cols≤1024)∧1≤g.rows∧g.rows≤1024)then 2
 else if 1024<g.cols*g.rows then 8
 else if 1000000<g.x+g.cols*g.side∨1000000<g.y+g.rows*g.side then 2
 else if(g.levels.length:Int)≠g.cols*g.rows then 10
 else if g.levels.any qhe then 2 else 0
theorem qkF{a b m n:Int}(ha:1≤a∧a≤m)(hb:1≤b∧b≤n):1≤a*b∧a*b≤m*n:=by
 constructor
 ·exact Int.le_trans (by decide:(1:Int)≤1*1) (Int.mul_le_mul ha.1 hb.1 (by omega) (by omega))
 ·exact Int.mul_le_mul ha.2 hb.2 (by omega) (by omega)
theorem qCT(g:Grid)(hl:g.levels.length<1000000000000):Contract Tryz.prog 86 [.agg (encGrid g)] (.ret (.int .i64 (qa8 g))):=by
 by_cases hg:((-1000000≤g.x∧g.x≤1000000)∧ -1000000≤g.y∧g.y≤1000000)∧(100≤g.side∧g.side≤10000)∧(1≤g.cols∧g.cols≤1024)∧1≤g.rows∧g.rows≤1024
 ·have b1:=qkF hg.2.2.1 hg.2.2.2
  have b2:=qkF hg.2.2.1 (b:=g.side) (n:=10000) (by omega)
  have b3:=qkF hg.2.2.2 (b:=g.side) (n:=10000) (by omega)
  refine zT mix Tryz.func86 Tryz.ntmps86 Tryz.results86 rfl rfl rfl ?_;simp only[qac,Nat.reduceAdd]
  repeat'(first|((with_reducible (show qan _ (.call _) _ _ _ _));first|((with_reducible apply qad);rfl;(exact qxX _ _ _);rfl)|((with_reducible apply qad);rfl;(exact qzj _ _ _ _);rfl)|((with_reducible apply qad);rfl;(exact qH7 g.levels hl 160 qhe fun x _=>qJE x);rfl))|refine zQ ?_|(refine zC ?_ ?_<;>first|intro h|simp)|(refine zG ?_ ?_<;>first|intro h|simp)|refine zE ?_|fail)
  all_goals (unfold qa8;(repeat' split)<;>first|rfl|(exfalso;omega)|(exfalso;simp_all;done))
 ·have e:qa8 g=2:=by unfold qa8;rw[if_pos hg]
  rw[e]
  refine zT mix Tryz.func86 Tryz.ntmps86 Tryz.results86 rfl rfl rfl ?_;simp only[qac,Nat.reduceAdd]
  repeat'(first|((with_reducible (show qan _ (.call _) _ _ _ _));first|((with_reducible apply qad);rfl;(exact qxX _ _ _);rfl)|((with_reducible apply qad);rfl;(exact qzj _ _ _ _);rfl))|(with_reducible rfl)|refine zQ ?_|(refine zC ?_ ?_<;>first|intro h|simp)|(refine zG ?_ ?_<;>first|intro h|simp)|refine zE ?_|fail)
  all_goals first|rfl|(exfalso;omega)
def qbX(a b:Grid):Bool:=decide (a.x=b.x∧a.y=b.y∧a.side=b.side∧a.cols=b.cols∧a.rows=b.rows)
theorem qJF(a b:Grid):Contract Tryz.prog 259 [.agg (encGrid a),.agg (encGrid b)] (.ret (.bool (qbX a b))):=by
 refine zT mix Tryz.func259 Tryz.ntmps259 Tryz.results259 rfl rfl rfl ?_;simp only[qac,Nat.reduceAdd]
 repeat'(first|refine zQ ?_|(refine zG ?_ ?_<;>first|intro h|simp)|refine zE ?_|fail)
 all_goals simp[qbX, *]
theorem c40(a b:Grid):Contract Tryz.prog 108 [.agg (encGrid a),.agg (encGrid b)] (.ret (.bool (qbX a b))):=by
 refine zT mix Tryz.func108 Tryz.ntmps108 Tryz.results108 rfl rfl rfl ?_;simp only[qac,Nat.reduceAdd]
 repeat'(first|refine zQ ?_|(refine zG ?_ ?_<;>first|intro h|simp)|refine zE ?_|fail)
 all_goals simp[qbX, *]
theorem c28(g:Grid)(hl:g.levels.length<1000000000000):Contract Tryz.prog 97 [.agg (encGrid g)] (.ret (.int .i64 (qa8 g))):=by
 by_cases hg:((-1000000≤g.x∧g.x≤1000000)∧ -1000000≤g.y∧g.y≤1000000)∧(100≤g.side∧g.side≤10000)∧(1≤g.cols∧g.cols≤1024)∧1≤g.rows∧g.rows≤1024
 ·have b1:=qkF hg.2.2.1 hg.2.2.2
  have b2:=qkF hg.2.2.1 (b:=g.side) (n:=10000) (by omega)
  have b3:=qkF hg.2.2.2 (b:=g.side) (n:=10000) (by omega)
  refine zT mix Tryz.func97 Tryz.ntmps97 Tryz.results97 rfl rfl rfl ?_;simp only[qac,Nat.reduceAdd]
  repeat'(first|((with_reducible apply qad);rfl;(exact c38 _ _ _);rfl)|refine zQ ?_|(refine zC ?_ ?_<;>first|intro h|simp)|(refine zG ?_ ?_<;>first|intro h|simp)|refine zE ?_|fail)
  all_goals first|(unfold qa8;(repeat' split)<;>first|rfl|(exfalso;omega)|(exfalso;simp_all;done))|skip
  have e:qa8 g=if g.levels.any qhe then 2 else 0:=by
   unfold qa8;rw[if_neg (by omega),if_neg (by omega),if_neg (by omega),if_neg (by omega)]
  rw[e]
  refine qaf (g.levels.length) (fun i=>⟨[(3,.int .i64 i),(1,.op 0 0 0)],[(0,⟨6,true,[encGrid g]⟩)],32,89⟩) (fun i=>∀j (hj:j<i) (hj':j<g.levels.length),qhe g.levels[j]=false) (qaa (k:=0) (ns:=[]) (ks:=[3,1]) [(0,0)] rfl (by simp) rfl) (fun j h _=>absurd h (Nat.not_lt_zero _)) ?_
  intro i hi hC
  repeat'(first|((with_reducible apply qad);rfl;(exact c48 _);rfl)|refine zQ ?_|(refine zI ?_;intro hlt)|(refine zC ?_ ?_<;>first|intro h|simp)|(refine zG ?_ ?_<;>first|intro h|simp)|refine zE ?_|fail)
  ·have h1:¬g.levels[i]=30000:=by assumption
   rw[if_pos (List.any_eq_true.2 ⟨g.levels[i],List.getElem_mem _,by simp[qhe,h,h1]⟩)]
  ·have h2:i<g.levels.length:=by omega
   refine⟨h2,fun j hj hj'=>?_,qaa (k:=0) (ns:=[]) (ks:=[3,1]) [(0,0)] rfl (by simp) rfl⟩
   rcases Nat.lt_succ_iff_lt_or_eq.1 hj with h'|rfl
   ·exact hC j h' hj'
   ·simp[qhe,h]
  ·have h2:i<g.levels.length:=by omega
   refine⟨h2,fun j hj hj'=>?_,qaa (k:=0) (ns:=[]) (ks:=[3,1]) [(0,0)] rfl (by simp) rfl⟩
   rcases Nat.lt_succ_iff_lt_or_eq.1 hj with h'|rfl
   ·exact hC j h' hj'
   ·simp[qhe,h]
  ·rw[if_neg]
   intro hh
   obtain⟨x,hx,hb⟩:=List.any_eq_true.1 hh
   obtain⟨j,hj,rfl⟩:=List.mem_iff_getElem.1 hx
   rw[hC j (by omega) hj]at hb
   cases hb
 ·have e:qa8 g=2:=by unfold qa8;rw[if_pos hg]
  rw[e]
  refine zT mix Tryz.func97 Tryz.ntmps97 Tryz.results97 rfl rfl rfl ?_;simp only[qac,Nat.reduceAdd]
  repeat'(first|((with_reducible apply qad);rfl;(exact c38 _ _ _);rfl)|(with_reducible rfl)|refine zQ ?_|(refine zC ?_ ?_<;>first|intro h|simp)|(refine zG ?_ ?_<;>first|intro h|simp)|refine zE ?_|fail)
  all_goals first|rfl|(exfalso;omega)
end Go.Pv.Soil

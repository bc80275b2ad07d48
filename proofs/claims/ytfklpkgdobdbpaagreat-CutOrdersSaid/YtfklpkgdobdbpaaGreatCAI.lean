import Derived.Test.YtfklpkgdobdbpaaGreatCAH
/- Part of the proofs over YtfklpkgdobdbpaaGreat: S15, S16, S17, S18. -/
set_option linter.unusedVariables false
set_option linter.unusedSimpArgs false
set_option linter.unnecessarySimpa false
open Go Go.Proofs Go.Pv
set_option maxHeartbeats 8000000
set_option maxRecDepth 100000
set_option linter.unusedSimpArgs false
set_option linter.unusedVariables false
namespace Go.Pv.Soil
def qal(n:Int):List D:=[.int .i64 n]
theorem qLK(l:List Int)(hl:l.length<1000000000000)(g:FuncId)(p:Int→Bool)(hf:∀x∈l,Contract Tryz.prog g [.int .i64 x] (.ret (.bool (p x)))):
  Contract Tryz.prog 218 [.sl (l.map qal),.clo (.func g) [] []] (.ret (.int .i64 (qcs p l))):=by
 refine zT mix Tryz.func218 Tryz.ntmps218 Tryz.results218 rfl rfl rfl ?_;simp only[qab,Nat.reduceAdd]
 repeat'(first|refine zQ ?_|fail)
 refine qad (l.length) (fun i=>⟨[(8,.int .i64 i),(7,.int .i64 l.length),(0,.sl (l.map qal)),(1,.clo (.func g) [] [])],[],0,19⟩) (fun i=>∀j (hj:j<i) (hj':j<l.length),p l[j]=false) (qaa (k:=0) (ns:=[]) (ks:=[8,7,0,1]) [] rfl (by simp) rfl) (by omega) ?_
 intro i hi hC
 repeat'(first|refine zQ ?_|(refine zI ?_;intro hlt)|(refine zC ?_ ?_<;>first|intro h|simp)|refine zE ?_|fail)
 ·refine qa3 rfl rfl (fun _ _=>rfl) (hf l[i] (List.getElem_mem _)) rfl ?_
  repeat'(first|refine zQ ?_|(refine zC ?_ ?_<;>first|intro h|simp)|refine zE ?_|fail)
  ·have h2:i<l.length:=by omega
   exact(qa1 h2 h fun j hj=>hC j hj (by omega)).symm
  ·have h2:i<l.length:=by omega
   refine⟨by omega,fun j hj hj'=>?_,qaa (k:=0) (ns:=[]) (ks:=[8,7,0,1]) [] rfl (by simp) rfl⟩
   rcases Nat.lt_succ_iff_lt_or_eq.1 hj with h'|rfl
   ·exact hC j h' hj'
   ·exact h
 ·refine(qa8 fun x hx=>?_).symm
  obtain⟨j,hj,rfl⟩:=List.mem_iff_getElem.1 hx
  exact hC j (by omega) hj
theorem qKk(l:List Int)(hl:l.length<1000000000000)(g:FuncId)(p:Int→Bool)(hf:∀x∈l,Contract Tryz.prog g [.int .i64 x] (.ret (.bool (p x)))):
  Contract Tryz.prog 157 [.sl (l.map qal),.clo (.func g) [] []] (.ret (.bool (l.any p))):=by
 refine zT mix Tryz.func157 Tryz.ntmps157 Tryz.results157 rfl rfl rfl ?_;simp only[qab,Nat.reduceAdd]
 repeat'(first|((with_reducible apply qaj);rfl;(exact qLK l hl g p hf);rfl)|refine zQ ?_|refine zE ?_|fail)
 exact qcZ
theorem qLL(n:Int):Contract Tryz.prog 311 [.int .i64 n] (.ret (.bool (!qhQ n))):=by
 refine zT mix Tryz.func311 Tryz.ntmps311 Tryz.results311 rfl rfl rfl ?_;simp only[qab,Nat.reduceAdd]
 repeat'(first|((with_reducible apply qae);rfl;(exact qHR _);rfl)|(with_reducible rfl)|refine zQ ?_|refine zE ?_|fail)
def qhe(g:Ground)(p:Pt)(l:List Int):Int:=if qaB g≠0 then qaB g else if ptOK p=false∨(l.any fun n=> !qhQ n)=true then 2 else 0
theorem c96(g:Ground)(hs:g.soils.length<1000000000000)(hb:g.borings.length<1000000000000)(p:Pt)(l:List Int)(hl:l.length<1000000000000):
  Contract Tryz.prog 295 [.agg (qam g),.agg (encPt p),.sl (l.map qal)] (.ret (.int .i64 (qhe g p l))):=by
 refine zT mix Tryz.func295 Tryz.ntmps295 Tryz.results295 rfl rfl rfl ?_;simp only[qab,Nat.reduceAdd]
 repeat'(first|((with_reducible (show qap _ (.call _) _ _ _ _));first|((with_reducible apply qaj);rfl;(exact c22 g hs hb);rfl)|((with_reducible apply qae);rfl;(exact qHQ p);rfl)|((with_reducible apply qae);rfl;(exact qKk l hl 311 (fun n=> !qhQ n) fun x _=>qLL x);rfl))|refine zQ ?_|(refine zC ?_ ?_<;>first|intro h|simp)|(refine zG ?_ ?_<;>first|intro h|simp)|refine zE ?_|fail)
 all_goals simp only[qhe]
 all_goals simp_all
theorem qwY{p:Pt}(h:¬((-1000000≤p.x∧p.x≤1000000)∧(-1000000≤p.y∧p.y≤1000000))):true= !ptOK p:=by
 simp only[ptOK,decide_eq_false h,Bool.not_false]
theorem qwZ{p:Pt}(h:(-1000000≤p.x∧p.x≤1000000)∧(-1000000≤p.y∧p.y≤1000000)):false= !ptOK p:=by
 simp only[ptOK,decide_eq_true h,Bool.not_true]
theorem qLM(p:Pt):Contract Tryz.prog 283 [.agg (encPt p)] (.ret (.bool (!ptOK p))):=by
 refine zT mix Tryz.func283 Tryz.ntmps283 Tryz.results283 rfl rfl rfl ?_;simp only[qab,Nat.reduceAdd]
 repeat'(first|refine zQ ?_|(refine zG ?_ ?_<;>first|intro h|simp)|refine zE ?_|fail)
 ·by_cases h4:1000000<p.y
  ·rw[decide_eq_true h4];exact qwY (p:=p) (by omega)
  ·rw[decide_eq_false h4];exact qwZ (p:=p) (by omega)
 all_goals exact qwY (p:=p) (by omega)
theorem qLN(l:List Pt)(hl:l.length<1000000000000)(g:FuncId)(p:Pt→Bool)(hf:∀x∈l,Contract Tryz.prog g [.agg (encPt x)] (.ret (.bool (p x)))):
  Contract Tryz.prog 305 [.sl (l.map encPt),.clo (.func g) [] []] (.ret (.int .i64 (qcs p l))):=by
 refine zT mix Tryz.func305 Tryz.ntmps305 Tryz.results305 rfl rfl rfl ?_;simp only[qab,Nat.reduceAdd]
 repeat'(first|refine zQ ?_|fail)
 refine qad (l.length) (fun i=>⟨[(8,.int .i64 i),(7,.int .i64 l.length),(0,.sl (l.map encPt)),(1,.clo (.func g) [] [])],[],0,19⟩) (fun i=>∀j (hj:j<i) (hj':j<l.length),p l[j]=false) (qaa (k:=0) (ns:=[]) (ks:=[8,7,0,1]) [] rfl (by simp) rfl) (by omega) ?_
 intro i hi hC
 repeat'(first|refine zQ ?_|(refine zI ?_;intro hlt)|(refine zC ?_ ?_<;>first|intro h|simp)|refine zE ?_|fail)
 ·refine qa3 (d1:=.agg (encPt l[i])) rfl rfl (fun _ _=>rfl) (hf l[i] (List.getElem_mem _)) rfl ?_
  repeat'(first|refine zQ ?_|(refine zC ?_ ?_<;>first|intro h|simp)|refine zE ?_|fail)
  ·have h2:i<l.length:=by omega
   exact(qa1 h2 h fun j hj=>hC j hj (by omega)).symm
  ·have h2:i<l.length:=by omega
   refine⟨by omega,fun j hj hj'=>?_,qaa (k:=0) (ns:=[]) (ks:=[8,7,0,1]) [] rfl (by simp) rfl⟩
   rcases Nat.lt_succ_iff_lt_or_eq.1 hj with h'|rfl
   ·exact hC j h' hj'
   ·exact h
 ·refine(qa8 fun x hx=>?_).symm
  obtain⟨j,hj,rfl⟩:=List.mem_iff_getElem.1 hx
  exact hC j (by omega) hj
theorem qLO(l:List Pt)(hl:l.length<1000000000000)(g:FuncId)(p:Pt→Bool)(hf:∀x∈l,Contract Tryz.prog g [.agg (encPt x)] (.ret (.bool (p x)))):
  Contract Tryz.prog 282 [.sl (l.map encPt),.clo (.func g) [] []] (.ret (.bool (l.any p))):=by
 refine zT mix Tryz.func282 Tryz.ntmps282 Tryz.results282 rfl rfl rfl ?_;simp only[qab,Nat.reduceAdd]
 repeat'(first|((with_reducible apply qaj);rfl;(exact qLN l hl g p hf);rfl)|refine zQ ?_|refine zE ?_|fail)
 exact qcZ
theorem qLP(l:List Pt)(hl:l.length<1000000000000):Contract Tryz.prog 253 [.sl (l.map encPt)] (.ret (.bool (l.any fun p=> !ptOK p))):=by
 refine zT mix Tryz.func253 Tryz.ntmps253 Tryz.results253 rfl rfl rfl ?_;simp only[qab,Nat.reduceAdd]
 repeat'(first|((with_reducible apply qae);rfl;(exact qLO l hl 283 (fun p=> !ptOK p) fun x _=>qLM x);rfl)|(with_reducible rfl)|refine zQ ?_|refine zE ?_|fail)
def qqD(a b c:Pt):Int:=(b.x-a.x)*(c.x-a.x)+(b.y-a.y)*(c.y-a.y)
def sqE(a b:Pt):Int:=(b.x-a.x)*(b.x-a.x)+(b.y-a.y)*(b.y-a.y)
theorem qjj{p:Pt}(h:ptOK p=true):(-1000000≤p.x∧p.x≤1000000)∧(-1000000≤p.y∧p.y≤1000000):=by
 simpa[ptOK]using h
theorem qCK{a b m:Int}(hm:0≤m)(ha: -m≤a∧a≤m)(hb: -m≤b∧b≤m): -(m*m)≤a*b∧a*b≤m*m:=by
 have h:(a*b).natAbs≤(m*m).natAbs:=by
  rw[Int.natAbs_mul,Int.natAbs_mul]
  exact Nat.mul_le_mul (by omega) (by omega)
 have h2:((m*m).natAbs:Int)=m*m:=Int.natAbs_of_nonneg (Int.mul_nonneg hm hm)
 omega
theorem qzK{a b:Int}(ha: -2000000≤a∧a≤2000000)(hb: -2000000≤b∧b≤2000000): -4000000000000≤a*b∧a*b≤4000000000000:=by
 have:=qCK (m:=2000000) (by omega) ha hb;omega
theorem qLQ(a b c:Pt)(ha:ptOK a=true)(hb:ptOK b=true)(hc:ptOK c=true):Contract Tryz.prog 308 [.agg (encPt a),.agg (encPt b),.agg (encPt c)] (.ret (.int .i64 (qqD a b c))):=by
 have h1:=qjj ha
 have h2:=qjj hb
 have h3:=qjj hc
 have m1:=qzK (a:=b.x-a.x) (b:=c.x-a.x) (by omega) (by omega)
 have m2:=qzK (a:=b.y-a.y) (b:=c.y-a.y) (by omega) (by omega)
 refine zT mix Tryz.func308 Tryz.ntmps308 Tryz.results308 rfl rfl rfl ?_;simp only[qab,Nat.reduceAdd]
 repeat'(first|refine zQ ?_|refine zE ?_|fail)
 rfl
theorem qLR(a b c:Pt)(ha:ptOK a=true)(hb:ptOK b=true)(hc:ptOK c=true):Contract Tryz.prog 202 [.agg (encPt a),.agg (encPt b),.agg (encPt c)] (.ret (.int .i64 (qqD a b c))):=by
 have h1:=qjj ha
 have h2:=qjj hb
 have h3:=qjj hc
 have m1:=qzK (a:=b.x-a.x) (b:=c.x-a.x) (by omega) (by omega)
 have m2:=qzK (a:=b.y-a.y) (b:=c.y-a.y) (by omega) (by omega)
 refine zT mix Tryz.func202 Tryz.ntmps202 Tryz.results202 rfl rfl rfl ?_;simp only[qab,Nat.reduceAdd]
 repeat'(first|refine zQ ?_|refine zE ?_|fail)
 rfl
def qhB(a b:Pt):Int:=if ptOK a=true∧ptOK b=true then sqE a b else 0
theorem qLS(a b:Pt):Contract Tryz.prog 293 [.agg (encPt a),.agg (encPt b)] (.ret (.int .i64 (qhB a b))):=by
 have h128:Contract Tryz.prog 253 [.sl [encPt a,encPt b]] (.ret (.bool ([a,b].any fun p=> !ptOK p))):=qLP [a,b] (by simp)
 by_cases h:ptOK a=true∧ptOK b=true
 ·have e:([a,b].any fun p=> !ptOK p)=false:=by simp[h.1,h.2]
  rw[e]at h128
  refine zT mix Tryz.func293 Tryz.ntmps293 Tryz.results293 rfl rfl rfl ?_;simp only[qab,Nat.reduceAdd]
  repeat'(first|((with_reducible apply qaj);rfl;(exact qLQ a b b h.1 h.2 h.2);rfl)|refine zQ ?_|refine zF h128 ?_|refine zE ?_|fail)
  simp only[qhB,if_pos h,qqD,sqE]
 ·have e:([a,b].any fun p=> !ptOK p)=true:=by
   simp only[not_and,Bool.not_eq_true]at h
   cases ha:ptOK a
   ·simp[ha]
   ·simp[h ha]
  rw[e]at h128
  refine zT mix Tryz.func293 Tryz.ntmps293 Tryz.results293 rfl rfl rfl ?_;simp only[qab,Nat.reduceAdd]
  repeat'(first|refine zQ ?_|refine zF h128 ?_|refine zE ?_|fail)
  simp only[qhB,if_neg h]
theorem qLT(a b:Pt)(ha:ptOK a=true)(hb:ptOK b=true):Contract Tryz.prog 203 [.agg (encPt a),.agg (encPt b)] (.ret (.int .i64 (sqE a b))):=by
 refine zT mix Tryz.func203 Tryz.ntmps203 Tryz.results203 rfl rfl rfl ?_;simp only[qab,Nat.reduceAdd]
 repeat'(first|((with_reducible apply qaj);rfl;(exact qLR a b b ha hb hb);rfl)|refine zQ ?_|refine zE ?_|fail)
 simp only[qqD,sqE]
def qih(d:Nat→Int):Nat→Nat×Int
 |0=>(0,0)
 |i+1=>if i=0∨d i<(qih d i).2 then(i,d i)else qih d i
theorem qsD{d:Nat→Int}:∀{n:Nat},0<n→(qih d n).1<n
 |i+1,_=>by
  unfold qih
  split
  ·simp
  ·rename_i h
   have:=qsD (d:=d) (n:=i) (by omega)
   omega
def qpA(b:Boring):Pt:=⟨b.x,b.y⟩
def qmj(g:Ground)(p:Pt)(i:Nat):Int:=match g.borings[i]? with
 |some b=>qhB (qpA b) p
 |none=>0
def qbq(g:Ground)(p:Pt):Nat:=(qih (qmj g p) g.borings.length).1
theorem qm5{d:Nat→Int}{i:Nat}(h:i=0∨d i<(qih d i).2):qih d (i+1)=(i,d i):=by
 show(if _ then _ else _)=_
 rw[if_pos h]
theorem qm6{d:Nat→Int}{i:Nat}(h:¬(i=0∨d i<(qih d i).2)):qih d (i+1)=qih d i:=by
 show(if _ then _ else _)=_
 rw[if_neg h]
theorem c98(g:Ground)(hb:g.borings.length<1000000000000)(p:Pt):Contract Tryz.prog 261 [.agg (qam g),.agg (encPt p)] (.ret (.int .i64 (qbq g p))):=by
 refine zT mix Tryz.func261 Tryz.ntmps261 Tryz.results261 rfl rfl rfl ?_;simp only[qab,Nat.reduceAdd]
 repeat'(first|refine zQ ?_|fail)
 refine qad (g.borings.length) (fun i=>⟨[(14,.int .i64 i),(13,.int .i64 g.borings.length),(12,.sl (g.borings.map qbG)),(3,.op 32 0 0),(5,.int .i64 (qih (qmj g p) i).1),(6,.int .i64 (qih (qmj g p) i).2)],[(32,⟨2,true,[encPt p]⟩)],64,37⟩) (fun i=>True) (qaa (k:=0) (ns:=[]) (ks:=[14,13,12,3,5,6]) [(32,32)] rfl (by simp) rfl) trivial ?_
 intro i hi hC
 repeat'(first|refine zQ ?_|(refine zI ?_;intro hlt)|(refine zC ?_ ?_<;>first|intro h|simp)|refine zE ?_|fail)
 ·have h2:i<g.borings.length:=by omega
  have hd:qmj g p i=qhB (qpA g.borings[i]) p:=by simp only[qmj,List.getElem?_eq_getElem h2]
  refine qaj (args':=[.agg (encPt (qpA g.borings[i])),.agg (encPt p)]) rfl (qLS _ _) rfl ?_
  rw[←hd]
  repeat'(first|refine zQ ?_|(refine zC ?_ ?_<;>first|intro h|simp)|(refine zG ?_ ?_<;>first|intro h|simp)|fail)
  all_goals refine⟨h2,trivial,?_⟩
  all_goals first
   |(rw[qm5 (by omega)];exact qaa (k:=0) (ns:=[]) (ks:=[14,13,12,3,5,6]) [(32,32)] rfl (by simp) rfl)
   |(rw[qm6 (by omega)];exact qaa (k:=0) (ns:=[]) (ks:=[14,13,12,3,5,6]) [(32,32)] rfl (by simp) rfl)
 ·simp only[qbq];congr 3;omega
def qzL(b:Boring)(level:Int)(i:Nat):Bool:=match b.layers[i]? with
 |some l=>decide (level≤l.top)
 |none=>false
def quY(p:Nat→Bool):Nat→Nat
 |0=>0
 |n+1=>if p n=true then n else quY p n
def qBm(b:Boring)(level:Int):Nat:=quY (qzL b level) b.layers.length
theorem qsE{p:Nat→Bool}{i:Nat}:∀{n:Nat},i<n→p i=true→(∀j,i<j→j<n→p j=false)→quY p n=i
 |n+1,hi,h,hb=>by
  unfold quY
  by_cases he:i=n
  ·subst he;rw[if_pos h]
  ·rw[if_neg (by rw[hb n (by omega) (by omega)];decide)]
   exact qsE (by omega) h fun j h1 h2=>hb j h1 (by omega)
theorem qm7{p:Nat→Bool}:∀{n:Nat},(∀j,0<j→j<n→p j=false)→quY p n=0
 |0,_=>rfl
 |n+1,hb=>by
  unfold quY
  by_cases he:n=0
  ·subst he;split<;>rfl
  ·rw[if_neg (by rw[hb n (by omega) (by omega)];decide)]
   exact qm7 fun j h1 h2=>hb j h1 (by omega)
theorem qsF{b:Boring}{level:Int}{j:Nat}(hj:j<b.layers.length):qzL b level j=decide (level≤b.layers[j].top):=by
 simp only[qzL,List.getElem?_eq_getElem hj]
def qBn(g:Ground)(p:Pt)(level:Int):ByteArray:=match g.borings[qbq g p]? with
 |some b=>(match b.layers[qBm b level]? with
  |some l=>l.soil
  |none=>.empty)
 |none=>.empty
theorem quZ{g:Ground}(h:qaB g=0):qcG g.soils=0∧0<g.borings.length∧g.borings.length≤20∧qg4 (·.name) (qn9 g.soils) g.borings=0:=by
 unfold qaB at h
 split at h
 ·omega
 ·rename_i h1
  split at h
  ·omega
  ·split at h
   ·omega
   ·exact⟨by simpa using h1,by omega,by omega,h⟩
theorem qde{n:Nat}{f:Nat→Int}(h:qcK n f=0):∀j,j<n→f j=0:=by
 induction n generalizing f with
 |zero=>intro j hj;omega
 |succ n ih=>
  simp only[qcK]at h
  split at h
  ·rename_i h0
   intro j hj
   cases j with
   |zero=>exact h0
   |succ j=>exact ih h j (by omega)
  ·rename_i h0;exact(h0 h).elim
theorem qgt{α:Type}{nm:α→ByteArray}{er:α→Int}{l:List α}(h:qg4 nm er l=0){i:Nat}(hi:i<l.length):qaZ (nm l[i])=true∧er l[i]=0:=by
 have:=qde h i hi
 simp only[qcf,List.getElem?_eq_getElem hi]at this
 split at this
 ·cases this
 ·rename_i h1
  split at this
  ·cases this
  ·exact⟨by simpa using h1,this⟩
structure OkBoring(l:List Soil)(b:Boring):Prop where
 pt:ptOK (qpA b)=true
 len:0<b.layers.length∧b.layers.length≤12
 lay:∀i (hi:i<b.layers.length),qhQ b.layers[i].top=true∧0≤qbj l b.layers[i].soil∧∀(h:0<i),b.layers[i].top<(b.layers[i-1]'(by omega)).top
theorem qCL{l:List Soil}{b:Boring}(h:qn9 l b=0):OkBoring l b:=by
 unfold qn9 at h
 split at h
 ·omega
 ·rename_i h1
  split at h
  ·omega
  ·split at h
   ·omega
   ·refine⟨by simpa[qpA]using h1,by omega,fun i hi=>?_⟩
    have:=qde h i hi
    rw[qlm hi]at this
    split at this
    ·omega
    ·rename_i h2
     split at this
     ·omega
     ·rename_i h3
      split at this
      ·omega
      ·rename_i h4
       refine⟨by simpa using h2,by omega,fun h0=>?_⟩
       rw[List.getElem?_eq_getElem (by omega:i-1<b.layers.length)]at h3
       simp only[Option.map_some,Option.getD_some,not_and]at h3
       have:=h3 h0
       omega
structure OkG(g:Ground):Prop where
 soils:qcG g.soils=0
 n:0<g.borings.length∧g.borings.length≤20
 bor:∀i (hi:i<g.borings.length),OkBoring g.soils g.borings[i]
theorem okG{g:Ground}(h:qaB g=0):OkG g:=by
 obtain⟨h1,h2,h3,h4⟩:=quZ h
 exact⟨h1,⟨h2,h3⟩,fun i hi=>qCL (qgt h4 hi).2⟩
theorem qe9{g:Ground}{p:Pt}(h:0<g.borings.length):qbq g p<g.borings.length:=qsD h
theorem qE1{g:Ground}{p:Pt}{l:List Int}(h:qhe g p l=0):qaB g=0∧ptOK p=true∧∀n∈l,qhQ n=true:=by
 unfold qhe at h
 split at h
 ·omega
 ·rename_i h1
  split at h
  ·omega
  ·rename_i h2
   simp only[not_or,Bool.not_eq_false,Bool.not_eq_true,List.any_eq_false]at h2
   exact⟨by simpa using h1,h2.1,fun n hn=>by simpa using h2.2 n hn⟩
theorem c47(g:Ground)(hg:OkG g)(p:Pt)(hp:ptOK p=true):Contract Tryz.prog 247 [.agg (qam g),.agg (encPt p)] (.ret (.int .i64 (qbq g p))):=by
 have hn:=hg.n
 refine zT mix Tryz.func247 Tryz.ntmps247 Tryz.results247 rfl rfl rfl ?_;simp only[qab,Nat.reduceAdd]
 repeat'(first|refine zQ ?_|fail)
 refine qad (g.borings.length) (fun i=>⟨[(7,.int .i64 i),(2,.op 0 0 0),(3,.op 32 0 0),(5,.int .i64 (qih (qmj g p) i).1),(6,.int .i64 (qih (qmj g p) i).2)],[(0,⟨2,true,[qam g]⟩),(32,⟨2,true,[encPt p]⟩)],64,41⟩) (fun i=>True) (qaa (k:=0) (ns:=[]) (ks:=[7,2,3,5,6]) [(0,0),(32,32)] rfl (by simp) rfl) trivial ?_
 intro i hi hC
 repeat'(first|refine zQ ?_|(refine zI ?_;intro hlt)|(refine zC ?_ ?_<;>first|intro h|simp)|refine zE ?_|fail)
 ·have h2:i<g.borings.length:=by omega
  have hd:qmj g p i=qhB (qpA g.borings[i]) p:=by simp only[qmj,List.getElem?_eq_getElem h2]
  have hq:sqE p (qpA g.borings[i])=qmj g p i:=by
   rw[hd]
   simp only[qhB]
   rw[if_pos ⟨(hg.bor i h2).pt,hp⟩]
   simp only[sqE]
   have e1:∀a b:Int,(a-b)*(a-b)=(b-a)*(b-a):=fun a b=>by
    rw[show b-a= -(a-b)by omega,Int.neg_mul_neg]
   rw[e1 _ p.x,e1 _ p.y]
  refine qaj (args':=[.agg (encPt p),.agg (encPt (qpA g.borings[i]))]) rfl (qLT _ _ hp (hg.bor i h2).pt) rfl ?_
  rw[hq]
  repeat'(first|refine zQ ?_|(refine zC ?_ ?_<;>first|intro h|simp)|(refine zG ?_ ?_<;>first|intro h|simp)|fail)
  all_goals refine⟨h2,trivial,?_⟩
  all_goals first
   |(rw[qm5 (by omega)];exact qaa (k:=0) (ns:=[]) (ks:=[7,2,3,5,6]) [(0,0),(32,32)] rfl (by simp) rfl)
   |(rw[qm6 (by omega)];exact qaa (k:=0) (ns:=[]) (ks:=[7,2,3,5,6]) [(0,0),(32,32)] rfl (by simp) rfl)
 ·simp only[qbq];congr 3;omega
def qln(b:Boring)(k:Nat):ByteArray:=match b.layers[k]? with
 |some l=>l.soil
 |none=>.empty
end Go.Pv.Soil

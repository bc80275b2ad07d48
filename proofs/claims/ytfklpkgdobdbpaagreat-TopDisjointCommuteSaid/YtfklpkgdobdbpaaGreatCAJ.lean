import Derived.Test.YtfklpkgdobdbpaaGreatCAF
/- Part of the proofs over YtfklpkgdobdbpaaGreat: S15, S16, S17, S18, S19. -/
set_option linter.unusedVariables false
set_option linter.unusedSimpArgs false
set_option linter.unnecessarySimpa false
open Go Go.Proofs Go.Pv
set_option maxHeartbeats 8000000
set_option maxRecDepth 100000
set_option linter.unusedSimpArgs false
set_option linter.unusedVariables false
namespace Go.Pv.Soil
def qak(n:Int):List D:=[.int .i64 n]
theorem qJr(l:List Int)(hl:l.length<1000000000000)(g:FuncId)(p:Int→Bool)(hf:∀x∈l,Contract Tryz.prog g [.int .i64 x] (.ret (.bool (p x)))):
  Contract Tryz.prog 218 [.sl (l.map qak),.clo (.func g) [] []] (.ret (.int .i64 (qci p l))):=by
 refine zT mix Tryz.func218 Tryz.ntmps218 Tryz.results218 rfl rfl rfl ?_;simp only[qac,Nat.reduceAdd]
 repeat'(first|refine zQ ?_|fail)
 refine qaf (l.length) (fun i=>⟨[(8,.int .i64 i),(7,.int .i64 l.length),(0,.sl (l.map qak)),(1,.clo (.func g) [] [])],[],0,19⟩) (fun i=>∀j (hj:j<i) (hj':j<l.length),p l[j]=false) (qaa (k:=0) (ns:=[]) (ks:=[8,7,0,1]) [] rfl (by simp) rfl) (by omega) ?_
 intro i hi hC
 repeat'(first|refine zQ ?_|(refine zI ?_;intro hlt)|(refine zC ?_ ?_<;>first|intro h|simp)|refine zE ?_|fail)
 ·refine qaW rfl rfl (fun _ _=>rfl) (hf l[i] (List.getElem_mem _)) rfl ?_
  repeat'(first|refine zQ ?_|(refine zC ?_ ?_<;>first|intro h|simp)|refine zE ?_|fail)
  ·have h2:i<l.length:=by omega
   exact(qaY h2 h fun j hj=>hC j hj (by omega)).symm
  ·have h2:i<l.length:=by omega
   refine⟨by omega,fun j hj hj'=>?_,qaa (k:=0) (ns:=[]) (ks:=[8,7,0,1]) [] rfl (by simp) rfl⟩
   rcases Nat.lt_succ_iff_lt_or_eq.1 hj with h'|rfl
   ·exact hC j h' hj'
   ·exact h
 ·refine(qa7 fun x hx=>?_).symm
  obtain⟨j,hj,rfl⟩:=List.mem_iff_getElem.1 hx
  exact hC j (by omega) hj
theorem qH7(l:List Int)(hl:l.length<1000000000000)(g:FuncId)(p:Int→Bool)(hf:∀x∈l,Contract Tryz.prog g [.int .i64 x] (.ret (.bool (p x)))):
  Contract Tryz.prog 157 [.sl (l.map qak),.clo (.func g) [] []] (.ret (.bool (l.any p))):=by
 refine zT mix Tryz.func157 Tryz.ntmps157 Tryz.results157 rfl rfl rfl ?_;simp only[qac,Nat.reduceAdd]
 repeat'(first|((with_reducible apply qaj);rfl;(exact qJr l hl g p hf);rfl)|refine zQ ?_|refine zE ?_|fail)
 exact qcI
theorem qJs(n:Int):Contract Tryz.prog 311 [.int .i64 n] (.ret (.bool (!qhp n))):=by
 refine zT mix Tryz.func311 Tryz.ntmps311 Tryz.results311 rfl rfl rfl ?_;simp only[qac,Nat.reduceAdd]
 repeat'(first|((with_reducible apply qad);rfl;(exact qFF _);rfl)|(with_reducible rfl)|refine zQ ?_|refine zE ?_|fail)
def qgM(g:Ground)(p:Pt)(l:List Int):Int:=if qaI g≠0 then qaI g else if ptOK p=false∨(l.any fun n=> !qhp n)=true then 2 else 0
theorem c96(g:Ground)(hs:g.soils.length<1000000000000)(hb:g.borings.length<1000000000000)(p:Pt)(l:List Int)(hl:l.length<1000000000000):
  Contract Tryz.prog 295 [.agg (qam g),.agg (encPt p),.sl (l.map qak)] (.ret (.int .i64 (qgM g p l))):=by
 refine zT mix Tryz.func295 Tryz.ntmps295 Tryz.results295 rfl rfl rfl ?_;simp only[qac,Nat.reduceAdd]
 repeat'(first|((with_reducible (show qan _ (.call _) _ _ _ _));first|((with_reducible apply qaj);rfl;(exact c22 g hs hb);rfl)|((with_reducible apply qad);rfl;(exact qFE p);rfl)|((with_reducible apply qad);rfl;(exact qH7 l hl 311 (fun n=> !qhp n) fun x _=>qJs x);rfl))|refine zQ ?_|(refine zC ?_ ?_<;>first|intro h|simp)|(refine zG ?_ ?_<;>first|intro h|simp)|refine zE ?_|fail)
 all_goals simp only[qgM]
 all_goals simp_all
theorem qu4{p:Pt}(h:¬((-1000000≤p.x∧p.x≤1000000)∧(-1000000≤p.y∧p.y≤1000000))):true= !ptOK p:=by
 simp only[ptOK,decide_eq_false h,Bool.not_false]
theorem qu5{p:Pt}(h:(-1000000≤p.x∧p.x≤1000000)∧(-1000000≤p.y∧p.y≤1000000)):false= !ptOK p:=by
 simp only[ptOK,decide_eq_true h,Bool.not_true]
theorem qJt(p:Pt):Contract Tryz.prog 283 [.agg (encPt p)] (.ret (.bool (!ptOK p))):=by
 refine zT mix Tryz.func283 Tryz.ntmps283 Tryz.results283 rfl rfl rfl ?_;simp only[qac,Nat.reduceAdd]
 repeat'(first|refine zQ ?_|(refine zG ?_ ?_<;>first|intro h|simp)|refine zE ?_|fail)
 ·by_cases h4:1000000<p.y
  ·rw[decide_eq_true h4];exact qu4 (p:=p) (by omega)
  ·rw[decide_eq_false h4];exact qu5 (p:=p) (by omega)
 all_goals exact qu4 (p:=p) (by omega)
theorem qJu(l:List Pt)(hl:l.length<1000000000000)(g:FuncId)(p:Pt→Bool)(hf:∀x∈l,Contract Tryz.prog g [.agg (encPt x)] (.ret (.bool (p x)))):
  Contract Tryz.prog 305 [.sl (l.map encPt),.clo (.func g) [] []] (.ret (.int .i64 (qci p l))):=by
 refine zT mix Tryz.func305 Tryz.ntmps305 Tryz.results305 rfl rfl rfl ?_;simp only[qac,Nat.reduceAdd]
 repeat'(first|refine zQ ?_|fail)
 refine qaf (l.length) (fun i=>⟨[(8,.int .i64 i),(7,.int .i64 l.length),(0,.sl (l.map encPt)),(1,.clo (.func g) [] [])],[],0,19⟩) (fun i=>∀j (hj:j<i) (hj':j<l.length),p l[j]=false) (qaa (k:=0) (ns:=[]) (ks:=[8,7,0,1]) [] rfl (by simp) rfl) (by omega) ?_
 intro i hi hC
 repeat'(first|refine zQ ?_|(refine zI ?_;intro hlt)|(refine zC ?_ ?_<;>first|intro h|simp)|refine zE ?_|fail)
 ·refine qaW (d1:=.agg (encPt l[i])) rfl rfl (fun _ _=>rfl) (hf l[i] (List.getElem_mem _)) rfl ?_
  repeat'(first|refine zQ ?_|(refine zC ?_ ?_<;>first|intro h|simp)|refine zE ?_|fail)
  ·have h2:i<l.length:=by omega
   exact(qaY h2 h fun j hj=>hC j hj (by omega)).symm
  ·have h2:i<l.length:=by omega
   refine⟨by omega,fun j hj hj'=>?_,qaa (k:=0) (ns:=[]) (ks:=[8,7,0,1]) [] rfl (by simp) rfl⟩
   rcases Nat.lt_succ_iff_lt_or_eq.1 hj with h'|rfl
   ·exact hC j h' hj'
   ·exact h
 ·refine(qa7 fun x hx=>?_).symm
  obtain⟨j,hj,rfl⟩:=List.mem_iff_getElem.1 hx
  exact hC j (by omega) hj
theorem qJv(l:List Pt)(hl:l.length<1000000000000)(g:FuncId)(p:Pt→Bool)(hf:∀x∈l,Contract Tryz.prog g [.agg (encPt x)] (.ret (.bool (p x)))):
  Contract Tryz.prog 282 [.sl (l.map encPt),.clo (.func g) [] []] (.ret (.bool (l.any p))):=by
 refine zT mix Tryz.func282 Tryz.ntmps282 Tryz.results282 rfl rfl rfl ?_;simp only[qac,Nat.reduceAdd]
 repeat'(first|((with_reducible apply qaj);rfl;(exact qJu l hl g p hf);rfl)|refine zQ ?_|refine zE ?_|fail)
 exact qcI
theorem qJw(l:List Pt)(hl:l.length<1000000000000):Contract Tryz.prog 253 [.sl (l.map encPt)] (.ret (.bool (l.any fun p=> !ptOK p))):=by
 refine zT mix Tryz.func253 Tryz.ntmps253 Tryz.results253 rfl rfl rfl ?_;simp only[qac,Nat.reduceAdd]
 repeat'(first|((with_reducible apply qad);rfl;(exact qJv l hl 283 (fun p=> !ptOK p) fun x _=>qJt x);rfl)|(with_reducible rfl)|refine zQ ?_|refine zE ?_|fail)
def qps(a b c:Pt):Int:=(b.x-a.x)*(c.x-a.x)+(b.y-a.y)*(c.y-a.y)
def sqE(a b:Pt):Int:=(b.x-a.x)*(b.x-a.x)+(b.y-a.y)*(b.y-a.y)
theorem qiK{p:Pt}(h:ptOK p=true):(-1000000≤p.x∧p.x≤1000000)∧(-1000000≤p.y∧p.y≤1000000):=by
 simpa[ptOK]using h
theorem qAE{a b m:Int}(hm:0≤m)(ha: -m≤a∧a≤m)(hb: -m≤b∧b≤m): -(m*m)≤a*b∧a*b≤m*m:=by
 have h:(a*b).natAbs≤(m*m).natAbs:=by
  rw[Int.natAbs_mul,Int.natAbs_mul]
  exact Nat.mul_le_mul (by omega) (by omega)
 have h2:((m*m).natAbs:Int)=m*m:=Int.natAbs_of_nonneg (Int.mul_nonneg hm hm)
 omega
theorem qxQ{a b:Int}(ha: -2000000≤a∧a≤2000000)(hb: -2000000≤b∧b≤2000000): -4000000000000≤a*b∧a*b≤4000000000000:=by
 have:=qAE (m:=2000000) (by omega) ha hb;omega
theorem qJx(a b c:Pt)(ha:ptOK a=true)(hb:ptOK b=true)(hc:ptOK c=true):Contract Tryz.prog 308 [.agg (encPt a),.agg (encPt b),.agg (encPt c)] (.ret (.int .i64 (qps a b c))):=by
 have h1:=qiK ha
 have h2:=qiK hb
 have h3:=qiK hc
 have m1:=qxQ (a:=b.x-a.x) (b:=c.x-a.x) (by omega) (by omega)
 have m2:=qxQ (a:=b.y-a.y) (b:=c.y-a.y) (by omega) (by omega)
 refine zT mix Tryz.func308 Tryz.ntmps308 Tryz.results308 rfl rfl rfl ?_;simp only[qac,Nat.reduceAdd]
 repeat'(first|refine zQ ?_|refine zE ?_|fail)
 rfl
theorem qJy(a b c:Pt)(ha:ptOK a=true)(hb:ptOK b=true)(hc:ptOK c=true):Contract Tryz.prog 202 [.agg (encPt a),.agg (encPt b),.agg (encPt c)] (.ret (.int .i64 (qps a b c))):=by
 have h1:=qiK ha
 have h2:=qiK hb
 have h3:=qiK hc
 have m1:=qxQ (a:=b.x-a.x) (b:=c.x-a.x) (by omega) (by omega)
 have m2:=qxQ (a:=b.y-a.y) (b:=c.y-a.y) (by omega) (by omega)
 refine zT mix Tryz.func202 Tryz.ntmps202 Tryz.results202 rfl rfl rfl ?_;simp only[qac,Nat.reduceAdd]
 repeat'(first|refine zQ ?_|refine zE ?_|fail)
 rfl
def qhd(a b:Pt):Int:=if ptOK a=true∧ptOK b=true then sqE a b else 0
theorem qJz(a b:Pt):Contract Tryz.prog 293 [.agg (encPt a),.agg (encPt b)] (.ret (.int .i64 (qhd a b))):=by
 have h128:Contract Tryz.prog 253 [.sl [encPt a,encPt b]] (.ret (.bool ([a,b].any fun p=> !ptOK p))):=qJw [a,b] (by simp)
 by_cases h:ptOK a=true∧ptOK b=true
 ·have e:([a,b].any fun p=> !ptOK p)=false:=by simp[h.1,h.2]
  rw[e]at h128
  refine zT mix Tryz.func293 Tryz.ntmps293 Tryz.results293 rfl rfl rfl ?_;simp only[qac,Nat.reduceAdd]
  repeat'(first|((with_reducible apply qaj);rfl;(exact qJx a b b h.1 h.2 h.2);rfl)|refine zQ ?_|refine zF h128 ?_|refine zE ?_|fail)
  simp only[qhd,if_pos h,qps,sqE]
 ·have e:([a,b].any fun p=> !ptOK p)=true:=by
   simp only[not_and,Bool.not_eq_true]at h
   cases ha:ptOK a
   ·simp[ha]
   ·simp[h ha]
  rw[e]at h128
  refine zT mix Tryz.func293 Tryz.ntmps293 Tryz.results293 rfl rfl rfl ?_;simp only[qac,Nat.reduceAdd]
  repeat'(first|refine zQ ?_|refine zF h128 ?_|refine zE ?_|fail)
  simp only[qhd,if_neg h]
theorem qJA(a b:Pt)(ha:ptOK a=true)(hb:ptOK b=true):Contract Tryz.prog 203 [.agg (encPt a),.agg (encPt b)] (.ret (.int .i64 (sqE a b))):=by
 refine zT mix Tryz.func203 Tryz.ntmps203 Tryz.results203 rfl rfl rfl ?_;simp only[qac,Nat.reduceAdd]
 repeat'(first|((with_reducible apply qaj);rfl;(exact qJy a b b ha hb hb);rfl)|refine zQ ?_|refine zE ?_|fail)
 simp only[qps,sqE]
def qhM(d:Nat→Int):Nat→Nat×Int
 |0=>(0,0)
 |i+1=>if i=0∨d i<(qhM d i).2 then(i,d i)else qhM d i
theorem qrb{d:Nat→Int}:∀{n:Nat},0<n→(qhM d n).1<n
 |i+1,_=>by
  unfold qhM
  split
  ·simp
  ·rename_i h
   have:=qrb (d:=d) (n:=i) (by omega)
   omega
def qov(b:Boring):Pt:=⟨b.x,b.y⟩
def qln(g:Ground)(p:Pt)(i:Nat):Int:=match g.borings[i]? with
 |some b=>qhd (qov b) p
 |none=>0
def qbg(g:Ground)(p:Pt):Nat:=(qhM (qln g p) g.borings.length).1
theorem ql1{d:Nat→Int}{i:Nat}(h:i=0∨d i<(qhM d i).2):qhM d (i+1)=(i,d i):=by
 show(if _ then _ else _)=_
 rw[if_pos h]
theorem ql2{d:Nat→Int}{i:Nat}(h:¬(i=0∨d i<(qhM d i).2)):qhM d (i+1)=qhM d i:=by
 show(if _ then _ else _)=_
 rw[if_neg h]
theorem c98(g:Ground)(hb:g.borings.length<1000000000000)(p:Pt):Contract Tryz.prog 261 [.agg (qam g),.agg (encPt p)] (.ret (.int .i64 (qbg g p))):=by
 refine zT mix Tryz.func261 Tryz.ntmps261 Tryz.results261 rfl rfl rfl ?_;simp only[qac,Nat.reduceAdd]
 repeat'(first|refine zQ ?_|fail)
 refine qaf (g.borings.length) (fun i=>⟨[(14,.int .i64 i),(13,.int .i64 g.borings.length),(12,.sl (g.borings.map qbs)),(3,.op 32 0 0),(5,.int .i64 (qhM (qln g p) i).1),(6,.int .i64 (qhM (qln g p) i).2)],[(32,⟨2,true,[encPt p]⟩)],64,37⟩) (fun i=>True) (qaa (k:=0) (ns:=[]) (ks:=[14,13,12,3,5,6]) [(32,32)] rfl (by simp) rfl) trivial ?_
 intro i hi hC
 repeat'(first|refine zQ ?_|(refine zI ?_;intro hlt)|(refine zC ?_ ?_<;>first|intro h|simp)|refine zE ?_|fail)
 ·have h2:i<g.borings.length:=by omega
  have hd:qln g p i=qhd (qov g.borings[i]) p:=by simp only[qln,List.getElem?_eq_getElem h2]
  refine qaj (args':=[.agg (encPt (qov g.borings[i])),.agg (encPt p)]) rfl (qJz _ _) rfl ?_
  rw[←hd]
  repeat'(first|refine zQ ?_|(refine zC ?_ ?_<;>first|intro h|simp)|(refine zG ?_ ?_<;>first|intro h|simp)|fail)
  all_goals refine⟨h2,trivial,?_⟩
  all_goals first
   |(rw[ql1 (by omega)];exact qaa (k:=0) (ns:=[]) (ks:=[14,13,12,3,5,6]) [(32,32)] rfl (by simp) rfl)
   |(rw[ql2 (by omega)];exact qaa (k:=0) (ns:=[]) (ks:=[14,13,12,3,5,6]) [(32,32)] rfl (by simp) rfl)
 ·simp only[qbg];congr 3;omega
def qxR(b:Boring)(level:Int)(i:Nat):Bool:=match b.layers[i]? with
 |some l=>decide (level≤l.top)
 |none=>false
def qtb(p:Nat→Bool):Nat→Nat
 |0=>0
 |n+1=>if p n=true then n else qtb p n
def qzh(b:Boring)(level:Int):Nat:=qtb (qxR b level) b.layers.length
theorem qrc{p:Nat→Bool}{i:Nat}:∀{n:Nat},i<n→p i=true→(∀j,i<j→j<n→p j=false)→qtb p n=i
 |n+1,hi,h,hb=>by
  unfold qtb
  by_cases he:i=n
  ·subst he;rw[if_pos h]
  ·rw[if_neg (by rw[hb n (by omega) (by omega)];decide)]
   exact qrc (by omega) h fun j h1 h2=>hb j h1 (by omega)
theorem ql3{p:Nat→Bool}:∀{n:Nat},(∀j,0<j→j<n→p j=false)→qtb p n=0
 |0,_=>rfl
 |n+1,hb=>by
  unfold qtb
  by_cases he:n=0
  ·subst he;split<;>rfl
  ·rw[if_neg (by rw[hb n (by omega) (by omega)];decide)]
   exact ql3 fun j h1 h2=>hb j h1 (by omega)
theorem qrd{b:Boring}{level:Int}{j:Nat}(hj:j<b.layers.length):qxR b level j=decide (level≤b.layers[j].top):=by
 simp only[qxR,List.getElem?_eq_getElem hj]
def qzi(g:Ground)(p:Pt)(level:Int):ByteArray:=match g.borings[qbg g p]? with
 |some b=>(match b.layers[qzh b level]? with
  |some l=>l.soil
  |none=>.empty)
 |none=>.empty
theorem qtc{g:Ground}(h:qaI g=0):qdS g.soils=0∧0<g.borings.length∧g.borings.length≤20∧qha (·.name) (qm3 g.soils) g.borings=0:=by
 unfold qaI at h
 split at h
 ·omega
 ·rename_i h1
  split at h
  ·omega
  ·split at h
   ·omega
   ·exact⟨by simpa using h1,by omega,by omega,h⟩
theorem qdq{n:Nat}{f:Nat→Int}(h:qct n f=0):∀j,j<n→f j=0:=by
 induction n generalizing f with
 |zero=>intro j hj;omega
 |succ n ih=>
  simp only[qct]at h
  split at h
  ·rename_i h0
   intro j hj
   cases j with
   |zero=>exact h0
   |succ j=>exact ih h j (by omega)
  ·rename_i h0;exact(h0 h).elim
theorem qhN{α:Type}{nm:α→ByteArray}{er:α→Int}{l:List α}(h:qha nm er l=0){i:Nat}(hi:i<l.length):qaS (nm l[i])=true∧er l[i]=0:=by
 have:=qdq h i hi
 simp only[qce,List.getElem?_eq_getElem hi]at this
 split at this
 ·cases this
 ·rename_i h1
  split at this
  ·cases this
  ·exact⟨by simpa using h1,this⟩
structure OkBoring(l:List Soil)(b:Boring):Prop where
 pt:ptOK (qov b)=true
 len:0<b.layers.length∧b.layers.length≤12
 lay:∀i (hi:i<b.layers.length),qhp b.layers[i].top=true∧0≤qa9 l b.layers[i].soil∧∀(h:0<i),b.layers[i].top<(b.layers[i-1]'(by omega)).top
theorem qAF{l:List Soil}{b:Boring}(h:qm3 l b=0):OkBoring l b:=by
 unfold qm3 at h
 split at h
 ·omega
 ·rename_i h1
  split at h
  ·omega
  ·split at h
   ·omega
   ·refine⟨by simpa[qov]using h1,by omega,fun i hi=>?_⟩
    have:=qdq h i hi
    rw[qkC hi]at this
    split at this
    ·omega
    ·rename_i h2
     split at this
     ·omega
     ·rename_i h3
      split at this
      ·omega
      ·rename_i h4
       refine⟨by simpa using h2,by omega,fun h0=>?_⟩
       rw[List.getElem?_eq_getElem (by omega:i-1<b.layers.length)]at h3
       simp only[Option.map_some,Option.getD_some,not_and]at h3
       have:=h3 h0
       omega
structure OkG(g:Ground):Prop where
 soils:qdS g.soils=0
 n:0<g.borings.length∧g.borings.length≤20
 bor:∀i (hi:i<g.borings.length),OkBoring g.soils g.borings[i]
theorem okG{g:Ground}(h:qaI g=0):OkG g:=by
 obtain⟨h1,h2,h3,h4⟩:=qtc h
 exact⟨h1,⟨h2,h3⟩,fun i hi=>qAF (qhN h4 hi).2⟩
theorem qeJ{g:Ground}{p:Pt}(h:0<g.borings.length):qbg g p<g.borings.length:=qrb h
theorem qCP{g:Ground}{p:Pt}{l:List Int}(h:qgM g p l=0):qaI g=0∧ptOK p=true∧∀n∈l,qhp n=true:=by
 unfold qgM at h
 split at h
 ·omega
 ·rename_i h1
  split at h
  ·omega
  ·rename_i h2
   simp only[not_or,Bool.not_eq_false,Bool.not_eq_true,List.any_eq_false]at h2
   exact⟨by simpa using h1,h2.1,fun n hn=>by simpa using h2.2 n hn⟩
theorem c47(g:Ground)(hg:OkG g)(p:Pt)(hp:ptOK p=true):Contract Tryz.prog 247 [.agg (qam g),.agg (encPt p)] (.ret (.int .i64 (qbg g p))):=by
 have hn:=hg.n
 refine zT mix Tryz.func247 Tryz.ntmps247 Tryz.results247 rfl rfl rfl ?_;simp only[qac,Nat.reduceAdd]
 repeat'(first|refine zQ ?_|fail)
 refine qaf (g.borings.length) (fun i=>⟨[(7,.int .i64 i),(2,.op 0 0 0),(3,.op 32 0 0),(5,.int .i64 (qhM (qln g p) i).1),(6,.int .i64 (qhM (qln g p) i).2)],[(0,⟨2,true,[qam g]⟩),(32,⟨2,true,[encPt p]⟩)],64,41⟩) (fun i=>True) (qaa (k:=0) (ns:=[]) (ks:=[7,2,3,5,6]) [(0,0),(32,32)] rfl (by simp) rfl) trivial ?_
 intro i hi hC
 repeat'(first|refine zQ ?_|(refine zI ?_;intro hlt)|(refine zC ?_ ?_<;>first|intro h|simp)|refine zE ?_|fail)
 ·have h2:i<g.borings.length:=by omega
  have hd:qln g p i=qhd (qov g.borings[i]) p:=by simp only[qln,List.getElem?_eq_getElem h2]
  have hq:sqE p (qov g.borings[i])=qln g p i:=by
   rw[hd]
   simp only[qhd]
   rw[if_pos ⟨(hg.bor i h2).pt,hp⟩]
   simp only[sqE]
   have e1:∀a b:Int,(a-b)*(a-b)=(b-a)*(b-a):=fun a b=>by
    rw[show b-a= -(a-b)by omega,Int.neg_mul_neg]
   rw[e1 _ p.x,e1 _ p.y]
  refine qaj (args':=[.agg (encPt p),.agg (encPt (qov g.borings[i]))]) rfl (qJA _ _ hp (hg.bor i h2).pt) rfl ?_
  rw[hq]
  repeat'(first|refine zQ ?_|(refine zC ?_ ?_<;>first|intro h|simp)|(refine zG ?_ ?_<;>first|intro h|simp)|fail)
  all_goals refine⟨h2,trivial,?_⟩
  all_goals first
   |(rw[ql1 (by omega)];exact qaa (k:=0) (ns:=[]) (ks:=[7,2,3,5,6]) [(0,0),(32,32)] rfl (by simp) rfl)
   |(rw[ql2 (by omega)];exact qaa (k:=0) (ns:=[]) (ks:=[7,2,3,5,6]) [(0,0),(32,32)] rfl (by simp) rfl)
 ·simp only[qbg];congr 3;omega
def qkD(b:Boring)(k:Nat):ByteArray:=match b.layers[k]? with
 |some l=>l.soil
 |none=>.empty
structure Part where
 soil:ByteArray
 top:Int
 bottom:Int
def qbt(p:Part):List D:=[.str p.soil,.int .i64 p.top,.int .i64 p.bottom]
theorem qhO:qeS qbt 3:=fun _=>⟨rfl,rfl⟩
def qxS(b:Boring)(i:Nat)(d:Int):Int:=match b.layers[i]? with
 |some l=>l.top
 |none=>d
def qcu(b:Boring)(f t:Int)(i:Nat):Part:=⟨qkD b i,if 0<i then min f (qxS b i f)else f,if i+1<b.layers.length then max t (qxS b (i+1) t)else t⟩
def qij(b:Boring)(f t:Int):Nat→List Part
 |0=>[]
 |n+1=>if(qcu b f t n).bottom<(qcu b f t n).top then qij b f t n++[qcu b f t n]else qij b f t n
def qaD(g:Ground)(p:Pt)(f t:Int):List Part:=match g.borings[qbg g p]? with
 |some b=>qij b f t b.layers.length
 |none=>[]
theorem qhP(b:Boring)(f t:Int):∀n,(qij b f t n).length≤n
 |0=>Nat.le_refl _
 |n+1=>by
  have:=qhP b f t n
  simp only[qij]
  split<;>simp<;>omega
theorem qgr{b:Boring}{f t:Int}{i:Nat}(hi:i<b.layers.length):(qcu b f t i).top=if 0<i then min f b.layers[i].top else f:=by
 simp only[qcu,qxS,List.getElem?_eq_getElem hi]
theorem qgs{b:Boring}{f t:Int}{i:Nat}:(qcu b f t i).bottom=if h:i+1<b.layers.length then max t b.layers[i+1].top else t:=by
 simp only[qcu,qxS]
 split
 ·rename_i h;rw[List.getElem?_eq_getElem h]
 ·rfl
theorem qkE{b:Boring}{f t:Int}{i:Nat}(hi:i<b.layers.length):(qcu b f t i).soil=b.layers[i].soil:=by
 simp only[qcu,qkD,List.getElem?_eq_getElem hi]
theorem qre{b:Boring}{f t X Y:Int}{i:Nat}(h:Y<X)(hi:i<b.layers.length)(hx:(qcu b f t i).top=X)(hy:(qcu b f t i).bottom=Y):qij b f t i++[⟨b.layers[i].soil,X,Y⟩]=qij b f t (i+1):=by
 subst hx hy
 rw[←qkE (f:=f) (t:=t) hi]
 show _=if _ then _ else _
 rw[if_pos h]
theorem qvf{b:Boring}{f t X Y:Int}{i:Nat}(h:¬Y<X)(hx:(qcu b f t i).top=X)(hy:(qcu b f t i).bottom=Y):qij b f t i=qij b f t (i+1):=by
 subst hx hy
 show _=if _ then _ else _
 rw[if_neg h]
theorem c97(g:Ground)(hg:OkG g)(p:Pt)(f t:Int):Contract Tryz.prog 249 [.agg (qam g),.agg (encPt p),.int .i64 f,.int .i64 t] (.ret (.fr 3 ((qaD g p f t).map qbt))):=by
 have hn:=qeJ (p:=p) hg.n.1
 have hb20:=hg.n
 have hll:=(hg.bor _ hn).len
 refine zT mix Tryz.func249 Tryz.ntmps249 Tryz.results249 rfl rfl rfl ?_;simp only[qac,Nat.reduceAdd]
 repeat'(first|((with_reducible apply qaj);rfl;(exact c98 g (by omega) p);rfl)|refine zQ ?_|(refine zI ?_;intro hlt)|fail)
 refine qaf g.borings[qbg g p].layers.length (fun i=>⟨[(10,.os 1 0 (qij g.borings[qbg g p] f t i).length),(26,.int .i64 i),(24,.sl (g.borings[qbg g p].layers.map qeB)),(25,.int .i64 g.borings[qbg g p].layers.length),(9,.op 3 0 0),(2,.int .i64 f),(3,.int .i64 t)],[(1,⟨3,true,(qij g.borings[qbg g p] f t i).map qbt⟩),(3,⟨4,false,[qbs g.borings[qbg g p]]⟩)],32,67⟩) (fun i=>True) (qaa (nx:=32) (k:=3) (ns:=[(10,1)]) (ks:=[26,24,25,9,2,3]) [(352,3)] rfl (by simp;rfl) rfl) trivial ?_
 intro i hi hC
 repeat'(first|refine zQ ?_|(refine zI ?_;intro hlt)|(refine zC ?_ ?_<;>first|intro h|simp)|fail)
 all_goals first
  |(refine qaE (f:=qbt) (a:=⟨_,_,_⟩) (l:=qij g.borings[qbg g p] f t i) qhO rfl rfl rfl rfl rfl rfl (by kernel_rfl) (by kernel_rfl) (by have:=qhP g.borings[qbg g p] f t i;omega) rfl ?_)
  |skip
 repeat'(first|refine zQ ?_|fail)
 all_goals try
  have h2:i<g.borings[qbg g p].layers.length:=by omega
  have e1:((i:Int)+1).toNat=i+1:=by omega
  simp only[e1]at*
  refine⟨h2,trivial,?_⟩
  first
   |(have e:=qre (f:=f) (t:=t) h h2 (by rw[qgr h2];first|rw[if_pos (by omega)]|rw[if_neg (by omega)]) (by rw[qgs];first|rw[dif_pos (by omega)]|rw[dif_neg (by omega)])
     have el:(qij g.borings[qbg g p] f t i).length+1=(qij g.borings[qbg g p] f t (i+1)).length:=by rw[←e];simp
     rw[e,el]
     exact qaa (nx:=32) (k:=3) (ns:=[]) (ks:=[10,26,24,25,9,2,3]) [(1,1),(3,3)] rfl (by simp) rfl)
   |(rw[←qvf (f:=f) (t:=t) h (by rw[qgr h2];first|rw[if_pos (by omega)]|rw[if_neg (by omega)]) (by rw[qgs];first|rw[dif_pos (by omega)]|rw[dif_neg (by omega)])]
     exact qaa (nx:=32) (k:=3) (ns:=[]) (ks:=[10,26,24,25,9,2,3]) [(1,1),(3,3)] rfl (by simp) rfl)
 refine qok rfl rfl ?_
 simp only[qaD,List.getElem?_eq_getElem hn]
 congr 1;omega
def qd2(g:Ground)(p:Pt)(f t:Int):List Part×Int:=if qgM g p [f,t]≠0 then([],qgM g p [f,t])else if f<t then([],9)else(qaD g p f t,0)
def qCQ(x:List Part×Int):D:=.tup [.fr 3 (x.1.map qbt),.int .i64 x.2]
theorem c42(g:Ground)(hs:g.soils.length<1000000000000)(hb:g.borings.length<1000000000000)(p:Pt)(f t:Int):Contract Tryz.prog 272 [.agg (qam g),.agg (encPt p),.int .i64 f,.int .i64 t] (.ret (qCQ (qd2 g p f t))):=by
 have h96:Contract Tryz.prog 295 [.agg (qam g),.agg (encPt p),.sl [[.int .i64 f],[.int .i64 t]]] (.ret (.int .i64 (qgM g p [f,t]))):=c96 g hs hb p [f,t] (by simp)
 refine zT mix Tryz.func272 Tryz.ntmps272 Tryz.results272 rfl rfl rfl ?_;simp only[qac,Nat.reduceAdd]
 repeat'(first|refine zQ ?_|refine zF h96 ?_|(refine zC ?_ ?_<;>first|intro h|simp)|fail)
 ·have e:qd2 g p f t=([],qgM g p [f,t]):=by simp only[qd2];rw[if_pos h]
  rw[e]
  exact qbh (qmO (k:=3) rfl rfl rfl)
 ·rename_i h0
  have e:qd2 g p f t=([],9):=by simp only[qd2];rw[if_neg (by simp[h0]),if_pos h]
  rw[e]
  exact qbh (qmO (k:=3) rfl rfl rfl)
 ·rename_i h0
  have hg:=okG (qCP h0).1
  have e:qd2 g p f t=(qaD g p f t,0):=by simp only[qd2];rw[if_neg (by simp[h0]),if_neg h]
  rw[e]
  repeat'(first|((with_reducible apply qdC);rfl;(exact c97 g hg p f t);(exact qhO);rfl)|refine zA ?_|fail)
  exact qbh (qmN rfl (by simp) rfl rfl rfl)
end Go.Pv.Soil

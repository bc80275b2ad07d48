import Derived.Test.YtfklpkgdobdbpaaGreatCAI
/- Part of the proofs over YtfklpkgdobdbpaaGreat: S19. -/
set_option linter.unusedVariables false
set_option linter.unusedSimpArgs false
set_option linter.unnecessarySimpa false
open Go Go.Proofs Go.Pv
set_option maxHeartbeats 8000000
set_option maxRecDepth 100000
set_option linter.unusedSimpArgs false
set_option linter.unusedVariables false
namespace Go.Pv.Soil
structure Part where
 soil:ByteArray
 top:Int
 bottom:Int
def qbH(p:Part):List D:=[.str p.soil,.int .i64 p.top,.int .i64 p.bottom]
theorem qii:qfm qbH 3:=fun _=>⟨rfl,rfl⟩
def qzM(b:Boring)(i:Nat)(d:Int):Int:=match b.layers[i]? with
 |some l=>l.top
 |none=>d
def qcL(b:Boring)(f t:Int)(i:Nat):Part:=⟨qln b i,if 0<i then min f (qzM b i f)else f,if i+1<b.layers.length then max t (qzM b (i+1) t)else t⟩
def qiQ(b:Boring)(f t:Int):Nat→List Part
 |0=>[]
 |n+1=>if(qcL b f t n).bottom<(qcL b f t n).top then qiQ b f t n++[qcL b f t n]else qiQ b f t n
def qaI(g:Ground)(p:Pt)(f t:Int):List Part:=match g.borings[qbq g p]? with
 |some b=>qiQ b f t b.layers.length
 |none=>[]
theorem qij(b:Boring)(f t:Int):∀n,(qiQ b f t n).length≤n
 |0=>Nat.le_refl _
 |n+1=>by
  have:=qij b f t n
  simp only[qiQ]
  split<;>simp<;>omega
theorem qgQ{b:Boring}{f t:Int}{i:Nat}(hi:i<b.layers.length):(qcL b f t i).top=if 0<i then min f b.layers[i].top else f:=by
 simp only[qcL,qzM,List.getElem?_eq_getElem hi]
theorem qgR{b:Boring}{f t:Int}{i:Nat}:(qcL b f t i).bottom=if h:i+1<b.layers.length then max t b.layers[i+1].top else t:=by
 simp only[qcL,qzM]
 split
 ·rename_i h;rw[List.getElem?_eq_getElem h]
 ·rfl
theorem qlo{b:Boring}{f t:Int}{i:Nat}(hi:i<b.layers.length):(qcL b f t i).soil=b.layers[i].soil:=by
 simp only[qcL,qln,List.getElem?_eq_getElem hi]
theorem qsG{b:Boring}{f t X Y:Int}{i:Nat}(h:Y<X)(hi:i<b.layers.length)(hx:(qcL b f t i).top=X)(hy:(qcL b f t i).bottom=Y):qiQ b f t i++[⟨b.layers[i].soil,X,Y⟩]=qiQ b f t (i+1):=by
 subst hx hy
 rw[←qlo (f:=f) (t:=t) hi]
 show _=if _ then _ else _
 rw[if_pos h]
theorem qw9{b:Boring}{f t X Y:Int}{i:Nat}(h:¬Y<X)(hx:(qcL b f t i).top=X)(hy:(qcL b f t i).bottom=Y):qiQ b f t i=qiQ b f t (i+1):=by
 subst hx hy
 show _=if _ then _ else _
 rw[if_neg h]
theorem c97(g:Ground)(hg:OkG g)(p:Pt)(f t:Int):Contract Tryz.prog 249 [.agg (qam g),.agg (encPt p),.int .i64 f,.int .i64 t] (.ret (.fr 3 ((qaI g p f t).map qbH))):=by
 have hn:=qe9 (p:=p) hg.n.1
 have hb20:=hg.n
 have hll:=(hg.bor _ hn).len
 refine zT mix Tryz.func249 Tryz.ntmps249 Tryz.results249 rfl rfl rfl ?_;simp only[qab,Nat.reduceAdd]
 repeat'(first|((with_reducible apply qaj);rfl;(exact c98 g (by omega) p);rfl)|refine zQ ?_|(refine zI ?_;intro hlt)|fail)
 refine qad g.borings[qbq g p].layers.length (fun i=>⟨[(10,.os 1 0 (qiQ g.borings[qbq g p] f t i).length),(26,.int .i64 i),(24,.sl (g.borings[qbq g p].layers.map qeZ)),(25,.int .i64 g.borings[qbq g p].layers.length),(9,.op 3 0 0),(2,.int .i64 f),(3,.int .i64 t)],[(1,⟨3,true,(qiQ g.borings[qbq g p] f t i).map qbH⟩),(3,⟨4,false,[qbG g.borings[qbq g p]]⟩)],32,67⟩) (fun i=>True) (qaa (nx:=32) (k:=3) (ns:=[(10,1)]) (ks:=[26,24,25,9,2,3]) [(352,3)] rfl (by simp;rfl) rfl) trivial ?_
 intro i hi hC
 repeat'(first|refine zQ ?_|(refine zI ?_;intro hlt)|(refine zC ?_ ?_<;>first|intro h|simp)|fail)
 all_goals first
  |(refine qaH (f:=qbH) (a:=⟨_,_,_⟩) (l:=qiQ g.borings[qbq g p] f t i) qii rfl rfl rfl rfl rfl rfl (by kernel_rfl) (by kernel_rfl) (by have:=qij g.borings[qbq g p] f t i;omega) rfl ?_)
  |skip
 repeat'(first|refine zQ ?_|fail)
 all_goals try
  have h2:i<g.borings[qbq g p].layers.length:=by omega
  have e1:((i:Int)+1).toNat=i+1:=by omega
  simp only[e1]at*
  refine⟨h2,trivial,?_⟩
  first
   |(have e:=qsG (f:=f) (t:=t) h h2 (by rw[qgQ h2];first|rw[if_pos (by omega)]|rw[if_neg (by omega)]) (by rw[qgR];first|rw[dif_pos (by omega)]|rw[dif_neg (by omega)])
     have el:(qiQ g.borings[qbq g p] f t i).length+1=(qiQ g.borings[qbq g p] f t (i+1)).length:=by rw[←e];simp
     rw[e,el]
     exact qaa (nx:=32) (k:=3) (ns:=[]) (ks:=[10,26,24,25,9,2,3]) [(1,1),(3,3)] rfl (by simp) rfl)
   |(rw[←qw9 (f:=f) (t:=t) h (by rw[qgQ h2];first|rw[if_pos (by omega)]|rw[if_neg (by omega)]) (by rw[qgR];first|rw[dif_pos (by omega)]|rw[dif_neg (by omega)])]
     exact qaa (nx:=32) (k:=3) (ns:=[]) (ks:=[10,26,24,25,9,2,3]) [(1,1),(3,3)] rfl (by simp) rfl)
 refine qpp rfl rfl ?_
 simp only[qaI,List.getElem?_eq_getElem hn]
 congr 1;omega
def qel(g:Ground)(p:Pt)(f t:Int):List Part×Int:=if qhe g p [f,t]≠0 then([],qhe g p [f,t])else if f<t then([],9)else(qaI g p f t,0)
def qE2(x:List Part×Int):D:=.tup [.fr 3 (x.1.map qbH),.int .i64 x.2]
theorem c42(g:Ground)(hs:g.soils.length<1000000000000)(hb:g.borings.length<1000000000000)(p:Pt)(f t:Int):Contract Tryz.prog 272 [.agg (qam g),.agg (encPt p),.int .i64 f,.int .i64 t] (.ret (qE2 (qel g p f t))):=by
 have h96:Contract Tryz.prog 295 [.agg (qam g),.agg (encPt p),.sl [[.int .i64 f],[.int .i64 t]]] (.ret (.int .i64 (qhe g p [f,t]))):=c96 g hs hb p [f,t] (by simp)
 refine zT mix Tryz.func272 Tryz.ntmps272 Tryz.results272 rfl rfl rfl ?_;simp only[qab,Nat.reduceAdd]
 repeat'(first|refine zQ ?_|refine zF h96 ?_|(refine zC ?_ ?_<;>first|intro h|simp)|fail)
 ·have e:qel g p f t=([],qhe g p [f,t]):=by simp only[qel];rw[if_pos h]
  rw[e]
  exact qbs (qnW (k:=3) rfl rfl rfl)
 ·rename_i h0
  have e:qel g p f t=([],9):=by simp only[qel];rw[if_neg (by simp[h0]),if_pos h]
  rw[e]
  exact qbs (qnW (k:=3) rfl rfl rfl)
 ·rename_i h0
  have hg:=okG (qE1 h0).1
  have e:qel g p f t=(qaI g p f t,0):=by simp only[qel];rw[if_neg (by simp[h0]),if_neg h]
  rw[e]
  repeat'(first|((with_reducible apply qdT);rfl;(exact c97 g hg p f t);(exact qii);rfl)|refine zA ?_|fail)
  exact qbs (qnV rfl (by simp) rfl rfl rfl)
end Go.Pv.Soil

import Derived.Test.YtfklpkgdobdbpaaGreatCAO
/- Part of the proofs over YtfklpkgdobdbpaaGreat: S66, PH11. -/
set_option linter.unusedVariables false
set_option linter.unusedSimpArgs false
set_option linter.unnecessarySimpa false
open Go Go.Proofs Go.Pv
set_option maxHeartbeats 8000000
set_option maxRecDepth 100000
set_option linter.unusedSimpArgs false
set_option linter.unusedVariables false
namespace Go.Pv.Soil
structure Quay where
 name:ByteArray
 a:Geo.Pt
 b:Geo.Pt
 toe:Int
 run:Int
def qct(q:Quay):List D:=[.str q.name,.int .i64 q.a.x,.int .i64 q.a.y,.int .i64 q.b.x,.int .i64 q.b.y,.int .i64 q.toe,.int .i64 q.run]
def gP(p:Geo.Pt):List D:=[.int .i64 p.x,.int .i64 p.y]
def qe8(q:Quay):Int:=if qaZ q.name=false then 4 else if ¬((Geo.ptOK q.a=true∧Geo.ptOK q.b=true)∧qhQ q.toe=true∧1≤q.run∧q.run≤1000)then 2 else if Geo.eqP q.a q.b=true then 3 else 0
theorem qw8{q:Quay}(h:qe8 q=0):(Geo.ptOK q.a=true∧Geo.ptOK q.b=true)∧(qhQ q.toe=true∧1≤q.run∧q.run≤1000)∧Geo.eqP q.a q.b=false:=by
 unfold qe8 at h
 split at h
 ·omega
 ·split at h
  ·omega
  ·rename_i h1 h2
   split at h
   ·omega
   ·rename_i h3
    have h4:=Classical.not_not.1 h2
    exact⟨h4.1,h4.2,by simpa using h3⟩
theorem qKi(p:Geo.Pt):Contract Tryz.prog 226 [.agg [.int .i64 p.x,.int .i64 p.y]] (.ret (.bool (Geo.ptOK p))):=qHQ ⟨p.x,p.y⟩
theorem p46(p:Geo.Pt):Contract Tryz.prog 235 [.agg [.int .i64 p.x,.int .i64 p.y]] (.ret (.bool (Geo.ptOK p))):=c46 ⟨p.x,p.y⟩
theorem qKj(q:Quay):Contract Tryz.prog 167 [.agg (qct q)] (.ret (.int .i64 (qe8 q))):=by
 refine zT mix Tryz.func167 Tryz.ntmps167 Tryz.results167 rfl rfl rfl ?_;simp only[qab,Nat.reduceAdd]
 repeat'(first|((with_reducible (show qap _ (.call _) _ _ _ _));first|((with_reducible apply qae);rfl;(exact qHP q.name);rfl)|((with_reducible apply qae);rfl;(exact qKi q.a);rfl)|((with_reducible apply qae);rfl;(exact qKi q.b);rfl)|((with_reducible apply qae);rfl;(exact qHR q.toe);rfl)|((with_reducible apply qae);rfl;(exact qD3 _ _ _);rfl))|refine zQ ?_|(refine zC ?_ ?_<;>first|intro h|simp)|(refine zG ?_ ?_<;>first|intro h|simp)|refine zE ?_|fail)
 all_goals first
  |(unfold qe8;simp[*,Geo.eqP];done)
  |(unfold qe8;simp_all [Geo.eqP];done)
  |(unfold qe8;simp_all [Geo.eqP];omega)
  |trace_state
theorem c71(q:Quay):Contract Tryz.prog 177 [.agg (qct q)] (.ret (.int .i64 (qe8 q))):=by
 refine zT mix Tryz.func177 Tryz.ntmps177 Tryz.results177 rfl rfl rfl ?_;simp only[qab,Nat.reduceAdd]
 repeat'(first|((with_reducible (show qap _ (.call _) _ _ _ _));first|((with_reducible apply qae);rfl;(exact c83 q.name);rfl)|((with_reducible apply qae);rfl;(exact p46 q.a);rfl)|((with_reducible apply qae);rfl;(exact p46 q.b);rfl)|((with_reducible apply qae);rfl;(exact c48 q.toe);rfl)|((with_reducible apply qae);rfl;(exact c38 _ _ _);rfl))|refine zQ ?_|(refine zC ?_ ?_<;>first|intro h|simp)|(refine zG ?_ ?_<;>first|intro h|simp)|refine zE ?_|fail)
 all_goals first
  |(unfold qe8;simp[*,Geo.eqP];done)
  |(unfold qe8;simp_all [Geo.eqP];done)
  |(unfold qe8;simp_all [Geo.eqP];omega)
  |trace_state
end Go.Pv.Soil
namespace Go.Pv.Geo
def qxd:List D:=[.int .i64 10,.clo (.func 267) [] [],.int .i64 8,.clo (.func 268) [] [],.int .i64 2,.clo (.func 269) [] [],.int .i64 3,.clo (.func 270) [] []]
theorem qzT:Contract Tryz.prog 229 [] (.ret (.agg qxd)):=by
 refine zT mix Tryz.func229 Tryz.ntmps229 Tryz.results229 rfl rfl rfl ?_;simp only[qab,Nat.reduceAdd]
 repeat'(first|((with_reducible apply qwg);apply qy4;rfl;rfl;rfl)|refine zQ ?_|fail)
 all_goals kernel_rfl
theorem qxe(l:List Pt):Contract Tryz.prog 267 [.sl (l.map encPt)] (.ret (.bool (decide (l.length<3)))):=by
 refine zT mix Tryz.func267 Tryz.ntmps267 Tryz.results267 rfl rfl rfl ?_;simp only[qab,Nat.reduceAdd]
 repeat'(first|refine zQ ?_|refine zE ?_|fail)
 all_goals (exact decide_eq_decide.2 (by omega))
theorem qxf(l:List Pt):Contract Tryz.prog 268 [.sl (l.map encPt)] (.ret (.bool (decide (40<l.length)))):=by
 refine zT mix Tryz.func268 Tryz.ntmps268 Tryz.results268 rfl rfl rfl ?_;simp only[qab,Nat.reduceAdd]
 repeat'(first|refine zQ ?_|refine zE ?_|fail)
 all_goals (exact decide_eq_decide.2 (by omega))
theorem qxg(l:List Pt)(hl:l.length<1000000000000):Contract Tryz.prog 269 [.sl (l.map encPt)] (.ret (.bool (l.any fun p=> !ptOK p))):=by
 refine zT mix Tryz.func269 Tryz.ntmps269 Tryz.results269 rfl rfl rfl ?_;simp only[qab,Nat.reduceAdd]
 repeat'(first|((with_reducible apply qae);rfl;(exact qlh l hl);rfl)|(with_reducible rfl)|refine zQ ?_|refine zE ?_|fail)
theorem qxh(l:List Pt)(h3:3≤l.length)(hl:l.length<1000000000)(hok:∀q∈l,ptOK q=true):Contract Tryz.prog 270 [.sl (l.map encPt)] (.ret (.bool (!qdp l))):=by
 refine zT mix Tryz.func270 Tryz.ntmps270 Tryz.results270 rfl rfl rfl ?_;simp only[qab,Nat.reduceAdd]
 repeat'(first|((with_reducible apply qae);rfl;(exact qzS l h3 hl hok);rfl)|(with_reducible rfl)|refine zQ ?_|refine zE ?_|fail)
def polyE(l:List Pt):Int:=if l.length<3 then 10 else if 40<l.length then 8 else if(l.any fun p=> !ptOK p)=true then 2 else if qdp l=true then 0 else 3
theorem qxi{l:List Pt}(h:polyE l=0):(3≤l.length∧l.length≤40)∧(∀p∈l,ptOK p=true)∧qdp l=true:=by
 unfold polyE at h
 (repeat' split at h)<;>first|(cases h;done)|skip
 rename_i h1 h2 h3 h4
 refine⟨by omega,fun p hp=>?_,h4⟩
 simp only[List.any_eq_true,not_exists,not_and]at h3
 simpa using h3 p hp
theorem c_CheckPolygon(l:List Pt):Contract Tryz.prog 166 [.sl (l.map encPt)] (.ret (.int .i64 (polyE l))):=by
 have s1:=qxe l
 have s2:=qxf l
 refine zT mix Tryz.func166 Tryz.ntmps166 Tryz.results166 rfl rfl rfl ?_;simp only[qab,Nat.reduceAdd]
 repeat'(first|refine zQ ?_|fail)
 refine qbt (args:=[]) (args':=[]) rfl qzT rfl (zL rfl) rfl ?_
 repeat'(first|refine zA ?_|fail)
 refine qad 4 (fun i=>⟨[(6,.int .i64 i),(5,.agg qxd),(0,.sl (l.map encPt))],[],0,16⟩) (fun i=>(1≤i→3≤l.length)∧(2≤i→l.length≤40)∧(3≤i→∀q∈l,ptOK q=true)∧(4≤i→qdp l=true))
  (qaa (nx:=0) (k:=0) (ns:=[]) (ks:=[6,5,0]) [] rfl (by simp) (by kernel_rfl)) ⟨by omega,by omega,by omega,by omega⟩ ?_
 intro i hi hC
 have hc4:i=0∨i=1∨i=2∨i=3∨i=4:=by omega
 rcases hc4 with rfl|rfl|rfl|rfl|rfl
 ·repeat'(first|refine zQ ?_|fail)
  refine qa3 (g:=267) (ys:=[]) (d1:=.sl (l.map encPt)) rfl rfl (fun _ _=>rfl) s1 rfl ?_
  repeat'(first|refine zQ ?_|(refine zC ?_ ?_<;>first|intro h|simp)|refine zE ?_|fail)
  ·unfold polyE;rw[if_pos (by omega)]
  ·exact⟨by omega,⟨by omega,by omega,by omega,by omega⟩,qaa (nx:=0) (k:=0) (ns:=[]) (ks:=[6,5,0]) [] rfl (by simp) (by kernel_rfl)⟩
 ·have h3:=hC.1 (by omega)
  repeat'(first|refine zQ ?_|fail)
  refine qa3 (g:=268) (ys:=[]) (d1:=.sl (l.map encPt)) rfl rfl (fun _ _=>rfl) s2 rfl ?_
  repeat'(first|refine zQ ?_|(refine zC ?_ ?_<;>first|intro h|simp)|refine zE ?_|fail)
  ·unfold polyE;rw[if_neg (by omega),if_pos (by omega)]
  ·exact⟨by omega,⟨by omega,by omega,by omega,by omega⟩,qaa (nx:=0) (k:=0) (ns:=[]) (ks:=[6,5,0]) [] rfl (by simp) (by kernel_rfl)⟩
 ·have h3:=hC.1 (by omega)
  have h4:=hC.2.1 (by omega)
  repeat'(first|refine zQ ?_|fail)
  refine qa3 (g:=269) (ys:=[]) (d1:=.sl (l.map encPt)) rfl rfl (fun _ _=>rfl) (qxg l (by omega)) rfl ?_
  repeat'(first|refine zQ ?_|(refine zC ?_ ?_<;>first|intro h|simp)|refine zE ?_|fail)
  ·unfold polyE;rw[if_neg (by omega),if_neg (by omega),if_pos (by assumption)]
  ·refine⟨by omega,⟨by omega,by omega,fun _ q hq=>?_,by omega⟩,qaa (nx:=0) (k:=0) (ns:=[]) (ks:=[6,5,0]) [] rfl (by simp) (by kernel_rfl)⟩
   have:=List.any_eq_false.1 ‹(l.any fun p=> !ptOK p)=false› q hq
   simpa using this
 ·have h3:=hC.1 (by omega)
  have h4:=hC.2.1 (by omega)
  have h5:=hC.2.2.1 (by omega)
  have hn:¬(l.any fun p=> !ptOK p)=true:=by
   simp only[List.any_eq_true,not_exists,not_and]
   intro q hq;rw[h5 q hq];simp
  repeat'(first|refine zQ ?_|fail)
  refine qa3 (g:=270) (ys:=[]) (d1:=.sl (l.map encPt)) rfl rfl (fun _ _=>rfl) (qxh l h3 (by omega) h5) rfl ?_
  repeat'(first|refine zQ ?_|(refine zC ?_ ?_<;>first|intro h|simp)|refine zE ?_|fail)
  all_goals first
   |(unfold polyE;rw[if_neg (by omega),if_neg (by omega),if_neg hn,if_neg (by rw[‹qdp l=false›];simp)])
   |(exact⟨by omega,⟨by omega,by omega,fun _=>h5,fun _=>by simp_all⟩,qaa (nx:=0) (k:=0) (ns:=[]) (ks:=[6,5,0]) [] rfl (by simp) (by kernel_rfl)⟩)
   |trace_state
 ·have h3:=hC.1 (by omega)
  have h4:=hC.2.1 (by omega)
  have h5:=hC.2.2.1 (by omega)
  have h6:=hC.2.2.2 (by omega)
  have hn:¬(l.any fun p=> !ptOK p)=true:=by
   simp only[List.any_eq_true,not_exists,not_and]
   intro q hq;rw[h5 q hq];simp
  repeat'(first|refine zQ ?_|refine zE ?_|fail)
  all_goals first
   |(unfold polyE;rw[if_neg (by omega),if_neg (by omega),if_neg hn,if_pos h6])
   |trace_state
end Go.Pv.Geo

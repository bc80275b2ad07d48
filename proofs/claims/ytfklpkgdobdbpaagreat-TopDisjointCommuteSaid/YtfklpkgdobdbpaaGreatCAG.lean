import Derived.Test.YtfklpkgdobdbpaaGreatCAD
import Derived.Test.YtfklpkgdobdbpaaGreatCAE
/- Part of the proofs over YtfklpkgdobdbpaaGreat: PH1. -/
set_option linter.unusedVariables false
set_option linter.unusedSimpArgs false
set_option linter.unnecessarySimpa false
open Go Go.Proofs Go.Pv
set_option maxHeartbeats 8000000
set_option maxRecDepth 100000
set_option linter.unusedSimpArgs false
set_option linter.unusedVariables false
namespace Go.Pv.Geo
theorem mix:Tryz.prog.follows .mixedOrders=true:=by decide +kernel
structure Pt where
 x:Int
 y:Int
 deriving DecidableEq
def encPt(p:Pt):List D:=[.int .i64 p.x,.int .i64 p.y]
def ptOK(p:Pt):Bool:=decide ((-1000000≤p.x∧p.x≤1000000)∧(-1000000≤p.y∧p.y≤1000000))
theorem qes{p:Pt}(h:ptOK p=true):(-1000000≤p.x∧p.x≤1000000)∧ -1000000≤p.y∧p.y≤1000000:=by simpa[ptOK]using h
theorem qu4{p:Pt}(h:¬((-1000000≤p.x∧p.x≤1000000)∧(-1000000≤p.y∧p.y≤1000000))):true= !ptOK p:=by
 simp only[ptOK,decide_eq_false h,Bool.not_false]
theorem qu5{p:Pt}(h:(-1000000≤p.x∧p.x≤1000000)∧(-1000000≤p.y∧p.y≤1000000)):false= !ptOK p:=by
 simp only[ptOK,decide_eq_true h,Bool.not_true]
def qci{α:Type}(p:α→Bool)(l:List α):Int:=match l.findIdx? p with
 |some i=>i
 |none=> -1
theorem qa7{α:Type}{p:α→Bool}{l:List α}(h:∀x∈l,p x=false):qci p l= -1:=by
 have:l.findIdx? p=none:=by simpa using h
 rw[qci,this]
theorem qaY{α:Type}{p:α→Bool}{l:List α}{i:Nat}(hi:i<l.length)(h:p l[i]=true)(hb:∀j (hj:j<i),p (l[j]'(by omega))=false):qci p l=i:=by
 have:l.findIdx? p=some i:=by
  rw[List.findIdx?_eq_some_iff_getElem]
  exact⟨hi,h,fun j hj=>by simpa using hb j hj⟩
 rw[qci,this]
theorem qcI{α:Type}{p:α→Bool}{l:List α}:decide (0≤qci p l)=l.any p:=by
 unfold qci
 cases h:l.findIdx? p with
 |none=>
  have:l.any p=false:=by
   rw[List.findIdx?_eq_none_iff]at h
   rw[List.any_eq_false]
   intro x hx
   simp[h x hx]
  rw[this];rfl
 |some i=>
  have:l.any p=true:=by
   rw[List.findIdx?_eq_some_iff_getElem]at h
   obtain⟨hi,h1,_⟩:=h
   exact List.any_eq_true.2 ⟨l[i],List.getElem_mem hi,h1⟩
  rw[this]
  simp
theorem c_within(n lo hi:Int):Contract Tryz.prog 84 [.int .i64 n,.int .i64 lo,.int .i64 hi] (.ret (.bool (decide (lo≤n∧n≤hi)))):=by
 refine zT mix Tryz.func84 Tryz.ntmps84 Tryz.results84 rfl rfl rfl ?_;simp only[qac,Nat.reduceAdd]
 repeat'(first|refine zQ ?_|(refine zG ?_ ?_<;>first|intro h|simp)|refine zE ?_|fail)
 all_goals (simp at *;try omega)
theorem qCK(p:Pt):Contract Tryz.prog 235 [.agg (encPt p)] (.ret (.bool (ptOK p))):=by
 refine zT mix Tryz.func235 Tryz.ntmps235 Tryz.results235 rfl rfl rfl ?_;simp only[qac,Nat.reduceAdd]
 repeat'(first|((with_reducible apply qad);rfl;(exact c_within _ _ _);rfl)|refine zQ ?_|(refine zG ?_ ?_<;>first|intro h|simp)|refine zE ?_|fail)
 all_goals (unfold ptOK;first|exact decide_eq_decide.2 (by omega)|exact(decide_eq_true (by omega)).symm|exact(decide_eq_false (by omega)).symm|trace_state)
theorem qs8(p:Pt):Contract Tryz.prog 283 [.agg (encPt p)] (.ret (.bool (!ptOK p))):=by
 refine zT mix Tryz.func283 Tryz.ntmps283 Tryz.results283 rfl rfl rfl ?_;simp only[qac,Nat.reduceAdd]
 repeat'(first|refine zQ ?_|(refine zG ?_ ?_<;>first|intro h|simp)|refine zE ?_|fail)
 ·by_cases h4:1000000<p.y
  ·rw[decide_eq_true h4];exact qu4 (p:=p) (by omega)
  ·rw[decide_eq_false h4];exact qu5 (p:=p) (by omega)
 all_goals exact qu4 (p:=p) (by omega)
theorem qpW(l:List Pt)(hl:l.length<1000000000000)(g:FuncId)(p:Pt→Bool)(hf:∀x∈l,Contract Tryz.prog g [.agg (encPt x)] (.ret (.bool (p x)))):
  Contract Tryz.prog 305 [.sl (l.map encPt),.clo (.func g) [] []] (.ret (.int .i64 (qci p l))):=by
 refine zT mix Tryz.func305 Tryz.ntmps305 Tryz.results305 rfl rfl rfl ?_;simp only[qac,Nat.reduceAdd]
 repeat'(first|refine zQ ?_|fail)
 refine qaf (l.length) (fun i=>⟨[(8,.int .i64 i),(7,.int .i64 l.length),(0,.sl (l.map encPt)),(1,.clo (.func g) [] [])],[],0,19⟩) (fun i=>∀j (hj:j<i) (hj':j<l.length),p l[j]=false) (qaa (k:=0) (ns:=[]) (ks:=[8,7,0,1]) [] rfl (by simp) rfl) (by omega) ?_
 intro i hi hC
 repeat'(first|refine zQ ?_|(refine zI ?_;intro hlt)|(refine zC ?_ ?_<;>first|intro h|simp)|refine zE ?_|fail)
 ·refine qaW (d1:=.agg (encPt l[i])) rfl rfl (fun _ _=>rfl) (hf l[i] (List.getElem_mem _)) rfl ?_
  repeat'(first|refine zQ ?_|(refine zC ?_ ?_<;>first|intro h|simp)|refine zE ?_|fail)
  ·have h2:i<l.length:=by omega
   exact(qaY h2 h fun j hj=>hC j hj (by omega)).symm
  ·have h2:i<l.length:=by omega
   refine⟨by omega,fun j hj hj'=>?_,qaa (k:=0) (ns:=[]) (ks:=[8,7,0,1]) [] rfl (by simp) rfl⟩
   rcases Nat.lt_succ_iff_lt_or_eq.1 hj with h'|rfl
   ·exact hC j h' hj'
   ·exact h
 ·refine(qa7 fun x hx=>?_).symm
  obtain⟨j,hj,rfl⟩:=List.mem_iff_getElem.1 hx
  exact hC j (by omega) hj
theorem qlm(l:List Pt)(hl:l.length<1000000000000)(g:FuncId)(p:Pt→Bool)(hf:∀x∈l,Contract Tryz.prog g [.agg (encPt x)] (.ret (.bool (p x)))):
  Contract Tryz.prog 282 [.sl (l.map encPt),.clo (.func g) [] []] (.ret (.bool (l.any p))):=by
 refine zT mix Tryz.func282 Tryz.ntmps282 Tryz.results282 rfl rfl rfl ?_;simp only[qac,Nat.reduceAdd]
 repeat'(first|((with_reducible apply qaj);rfl;(exact qpW l hl g p hf);rfl)|refine zQ ?_|refine zE ?_|fail)
 exact qcI
theorem qkx(l:List Pt)(hl:l.length<1000000000000):Contract Tryz.prog 253 [.sl (l.map encPt)] (.ret (.bool (l.any fun p=> !ptOK p))):=by
 refine zT mix Tryz.func253 Tryz.ntmps253 Tryz.results253 rfl rfl rfl ?_;simp only[qac,Nat.reduceAdd]
 repeat'(first|((with_reducible apply qad);rfl;(exact qlm l hl 283 (fun p=> !ptOK p) fun x _=>qs8 x);rfl)|(with_reducible rfl)|refine zQ ?_|refine zE ?_|fail)
theorem qky(a b:Pt):Contract Tryz.prog 253 [.sl [encPt a,encPt b]] (.ret (.bool (!(ptOK a&&ptOK b)))):=by
 have:=qkx [a,b] (by simp)
 simpa[Bool.not_and]using this
theorem qkz(a b c:Pt):Contract Tryz.prog 253 [.sl [encPt a,encPt b,encPt c]] (.ret (.bool (!(ptOK a&&ptOK b&&ptOK c)))):=by
 have:=qkx [a,b,c] (by simp)
 simpa[Bool.not_and,Bool.or_assoc]using this
theorem qfl{u v A B:Int}(hu: -A≤u∧u≤A)(hv: -B≤v∧v≤B): -(A*B)≤u*v∧u*v≤A*B:=by
 have key:∀y:Int,0≤y∧y≤B→ -(A*B)≤u*y∧u*y≤A*B:=fun y hy=>by
  have h1:u*y≤A*y:=Int.mul_le_mul_of_nonneg_right hu.2 hy.1
  have h2: -A*y≤u*y:=Int.mul_le_mul_of_nonneg_right hu.1 hy.1
  have h3:A*y≤A*B:=Int.mul_le_mul_of_nonneg_left hy.2 (by omega)
  rw[Int.neg_mul]at h2
  omega
 by_cases h:0≤v
 ·exact key v ⟨h,hv.2⟩
 ·have:=key (-v) ⟨by omega,by omega⟩
  rw[Int.mul_neg]at this
  omega
def crossE(a b c:Pt):Int:=(b.x-a.x)*(c.y-a.y)-(b.y-a.y)*(c.x-a.x)
def qps(a b c:Pt):Int:=(b.x-a.x)*(c.x-a.x)+(b.y-a.y)*(c.y-a.y)
theorem qBV{u v:Int}(hu: -2000000≤u∧u≤2000000)(hv: -2000000≤v∧v≤2000000): -4000000000000≤u*v∧u*v≤4000000000000:=by
 have:=qfl hu hv;omega
theorem qm1{a b c:Pt}(ha:ptOK a=true)(hb:ptOK b=true)(hc:ptOK c=true):(-4000000000000≤(b.x-a.x)*(c.y-a.y)∧(b.x-a.x)*(c.y-a.y)≤4000000000000)∧(-4000000000000≤(b.y-a.y)*(c.x-a.x)∧(b.y-a.y)*(c.x-a.x)≤4000000000000):=by
 have h1:=qes ha
 have h2:=qes hb
 have h3:=qes hc
 exact⟨qBV (by omega) (by omega),qBV (by omega) (by omega)⟩
theorem qu6{a b c:Pt}(ha:ptOK a=true)(hb:ptOK b=true)(hc:ptOK c=true):(-4000000000000≤(b.x-a.x)*(c.x-a.x)∧(b.x-a.x)*(c.x-a.x)≤4000000000000)∧(-4000000000000≤(b.y-a.y)*(c.y-a.y)∧(b.y-a.y)*(c.y-a.y)≤4000000000000):=by
 have h1:=qes ha
 have h2:=qes hb
 have h3:=qes hc
 exact⟨qBV (by omega) (by omega),qBV (by omega) (by omega)⟩
theorem crossE_bd{a b c:Pt}(ha:ptOK a=true)(hb:ptOK b=true)(hc:ptOK c=true): -8000000000000≤crossE a b c∧crossE a b c≤8000000000000:=by
 have:=qm1 ha hb hc;unfold crossE;omega
theorem qu7{a b c:Pt}(ha:ptOK a=true)(hb:ptOK b=true)(hc:ptOK c=true): -8000000000000≤qps a b c∧qps a b c≤8000000000000:=by
 have:=qu6 ha hb hc;unfold qps;omega
theorem qiJ(a b c:Pt)(ha:ptOK a=true)(hb:ptOK b=true)(hc:ptOK c=true):Contract Tryz.prog 285 [.agg (encPt a),.agg (encPt b),.agg (encPt c)] (.ret (.int .i64 (crossE a b c))):=by
 have h1:=qes ha
 have h2:=qes hb
 have h3:=qes hc
 have h4:=qm1 ha hb hc
 refine zT mix Tryz.func285 Tryz.ntmps285 Tryz.results285 rfl rfl rfl ?_;simp only[qac,Nat.reduceAdd]
 repeat'(first|refine zQ ?_|refine zE ?_|fail)
 all_goals rfl
theorem qm2(a b c:Pt)(ha:ptOK a=true)(hb:ptOK b=true)(hc:ptOK c=true):Contract Tryz.prog 201 [.agg (encPt a),.agg (encPt b),.agg (encPt c)] (.ret (.int .i64 (crossE a b c))):=by
 have h1:=qes ha
 have h2:=qes hb
 have h3:=qes hc
 have h4:=qm1 ha hb hc
 refine zT mix Tryz.func201 Tryz.ntmps201 Tryz.results201 rfl rfl rfl ?_;simp only[qac,Nat.reduceAdd]
 repeat'(first|refine zQ ?_|refine zE ?_|fail)
 all_goals rfl
theorem qCL(a b c:Pt)(ha:ptOK a=true)(hb:ptOK b=true)(hc:ptOK c=true):Contract Tryz.prog 308 [.agg (encPt a),.agg (encPt b),.agg (encPt c)] (.ret (.int .i64 (qps a b c))):=by
 have h1:=qes ha
 have h2:=qes hb
 have h3:=qes hc
 have h4:=qu6 ha hb hc
 refine zT mix Tryz.func308 Tryz.ntmps308 Tryz.results308 rfl rfl rfl ?_;simp only[qac,Nat.reduceAdd]
 repeat'(first|refine zQ ?_|refine zE ?_|fail)
 all_goals rfl
theorem qze(a b c:Pt)(ha:ptOK a=true)(hb:ptOK b=true)(hc:ptOK c=true):Contract Tryz.prog 202 [.agg (encPt a),.agg (encPt b),.agg (encPt c)] (.ret (.int .i64 (qps a b c))):=by
 have h1:=qes ha
 have h2:=qes hb
 have h3:=qes hc
 have h4:=qu6 ha hb hc
 refine zT mix Tryz.func202 Tryz.ntmps202 Tryz.results202 rfl rfl rfl ?_;simp only[qac,Nat.reduceAdd]
 repeat'(first|refine zQ ?_|refine zE ?_|fail)
 all_goals rfl
def sqE(a b:Pt):Int:=qps a b b
theorem qu8(a b:Pt)(ha:ptOK a=true)(hb:ptOK b=true):Contract Tryz.prog 203 [.agg (encPt a),.agg (encPt b)] (.ret (.int .i64 (sqE a b))):=by
 refine zT mix Tryz.func203 Tryz.ntmps203 Tryz.results203 rfl rfl rfl ?_;simp only[qac,Nat.reduceAdd]
 repeat'(first|((with_reducible apply qaj);rfl;(exact qze a b b ha hb hb);rfl)|refine zQ ?_|refine zE ?_|fail)
 rfl
def signE(n:Int):Int:=if n<0 then -1 else if 0<n then 1 else 0
theorem qCM(n:Int):Contract Tryz.prog 200 [.int .i64 n] (.ret (.int .i64 (signE n))):=by
 refine zT mix Tryz.func200 Tryz.ntmps200 Tryz.results200 rfl rfl rfl ?_;simp only[qac,Nat.reduceAdd]
 repeat'(first|refine zQ ?_|(refine zC ?_ ?_<;>first|intro h|simp)|refine zE ?_|fail)
 all_goals (unfold signE;(repeat' split)<;>first|rfl|(exfalso;omega))
theorem c_rorient(a b c:Pt)(ha:ptOK a=true)(hb:ptOK b=true)(hc:ptOK c=true):Contract Tryz.prog 139 [.agg (encPt a),.agg (encPt b),.agg (encPt c)] (.ret (.int .i64 (signE (crossE a b c)))):=by
 refine zT mix Tryz.func139 Tryz.ntmps139 Tryz.results139 rfl rfl rfl ?_;simp only[qac,Nat.reduceAdd]
 repeat'(first|((with_reducible (show qan _ (.call _) _ _ _ _));first|((with_reducible apply qaj);rfl;(exact qm2 a b c ha hb hc);rfl)|((with_reducible apply qaj);rfl;(exact qCM _);rfl))|(with_reducible rfl)|refine zQ ?_|refine zE ?_|fail)
theorem qAz(n:Int):Contract Tryz.prog 313 [.int .i64 n] (.ret (.bool false)):=by
 refine zT mix Tryz.func313 Tryz.ntmps313 Tryz.results313 rfl rfl rfl ?_;simp only[qac,Nat.reduceAdd]
 repeat'(first|refine zQ ?_|refine zE ?_|fail)
 all_goals simp
def qH3(a b:Int):Int:=if a<b then -1 else if b<a then 1 else 0
theorem qu9(n m:Int):Contract Tryz.prog 306 [.int .i64 n,.int .i64 m] (.ret (.int .i64 (qH3 n m))):=by
 refine zT mix Tryz.func306 Tryz.ntmps306 Tryz.results306 rfl rfl rfl ?_;simp only[qac,Nat.reduceAdd]
 repeat'(first|((with_reducible apply qad);rfl;(exact qAz _);rfl)|refine zQ ?_|(refine zC ?_ ?_<;>first|intro h|simp)|refine zE ?_|fail)
 all_goals (unfold qH3;(repeat' split)<;>first|rfl|(exfalso;omega))
theorem qs9(n:Int):Contract Tryz.prog 306 [.int .i64 n,.int .i64 0] (.ret (.int .i64 (signE n))):=qu9 n 0
theorem qq7(a b c:Pt)(ha:ptOK a=true)(hb:ptOK b=true)(hc:ptOK c=true):Contract Tryz.prog 286 [.agg (encPt a),.agg (encPt b),.agg (encPt c)] (.ret (.int .i64 (signE (crossE a b c)))):=by
 refine zT mix Tryz.func286 Tryz.ntmps286 Tryz.results286 rfl rfl rfl ?_;simp only[qac,Nat.reduceAdd]
 repeat'(first|((with_reducible (show qan _ (.call _) _ _ _ _));first|((with_reducible apply qaj);rfl;(exact qiJ a b c ha hb hc);rfl)|((with_reducible apply qaj);rfl;(exact qs9 _);rfl))|(with_reducible rfl)|refine zQ ?_|refine zE ?_|fail)
def onE(a b p:Pt):Bool:=decide (crossE a b p=0∧(min a.x b.x≤p.x∧p.x≤max a.x b.x)∧(min a.y b.y≤p.y∧p.y≤max a.y b.y))
theorem qAA(a b p:Pt)(ha:ptOK a=true)(hb:ptOK b=true)(hp:ptOK p=true):Contract Tryz.prog 284 [.agg (encPt a),.agg (encPt b),.agg (encPt p)] (.ret (.bool (onE a b p))):=by
 refine zT mix Tryz.func284 Tryz.ntmps284 Tryz.results284 rfl rfl rfl ?_;simp only[qac,Nat.reduceAdd]
 repeat'(first|((with_reducible apply qaj);rfl;(exact qiJ a b p ha hb hp);rfl)|refine zQ ?_|(refine zG ?_ ?_<;>first|intro h|simp)|refine zE ?_|fail)
 all_goals (unfold onE;first|exact(decide_eq_true (by omega)).symm|exact(decide_eq_false (by omega)).symm|(exact decide_eq_decide.2 (by omega))|trace_state)
theorem qdp(a b p:Pt)(ha:ptOK a=true)(hb:ptOK b=true)(hp:ptOK p=true):Contract Tryz.prog 236 [.agg (encPt a),.agg (encPt b),.agg (encPt p)] (.ret (.bool (onE a b p))):=by
 refine zT mix Tryz.func236 Tryz.ntmps236 Tryz.results236 rfl rfl rfl ?_;simp only[qac,Nat.reduceAdd]
 repeat'(first|((with_reducible (show qan _ (.call _) _ _ _ _));first|((with_reducible apply qaj);rfl;(exact qm2 a b p ha hb hp);rfl)|((with_reducible apply qad);rfl;(exact c_within _ _ _);rfl))|refine zQ ?_|(refine zG ?_ ?_<;>first|intro h|simp)|refine zE ?_|fail)
 all_goals (unfold onE;first|exact(decide_eq_true (by omega)).symm|exact(decide_eq_false (by omega)).symm|(exact decide_eq_decide.2 (by omega))|trace_state)
theorem qjA(a b:Int): -1≤signE a*signE b∧signE a*signE b≤1:=by
 have h:∀n,-1≤signE n∧signE n≤1:=fun n=>by unfold signE;(repeat' split)<;>omega
 have:=qfl (A:=1) (B:=1) (h a) (h b)
 omega
def qfB(a b c d:Pt):Bool:=(onE a b c||onE a b d||onE c d a||onE c d b)||(decide (signE (crossE a b c)*signE (crossE a b d)<0)&&decide (signE (crossE c d a)*signE (crossE c d b)<0))
theorem qos(a b c d:Pt)(ha:ptOK a=true)(hb:ptOK b=true)(hc:ptOK c=true)(hd:ptOK d=true):Contract Tryz.prog 255 [.agg (encPt a),.agg (encPt b),.agg (encPt c),.agg (encPt d)] (.ret (.bool (qfB a b c d))):=by
 have s1:=qjA (crossE a b c) (crossE a b d)
 have s2:=qjA (crossE c d a) (crossE c d b)
 refine zT mix Tryz.func255 Tryz.ntmps255 Tryz.results255 rfl rfl rfl ?_;simp only[qac,Nat.reduceAdd]
 repeat'(first|((with_reducible (show qan _ (.call _) _ _ _ _));first|((with_reducible apply qad);rfl;(exact qAA a b c ha hb hc);rfl)|((with_reducible apply qad);rfl;(exact qAA a b d ha hb hd);rfl)|((with_reducible apply qad);rfl;(exact qAA c d a hc hd ha);rfl)|((with_reducible apply qad);rfl;(exact qAA c d b hc hd hb);rfl)|((with_reducible apply qaj);rfl;(exact qq7 a b c ha hb hc);rfl)|((with_reducible apply qaj);rfl;(exact qq7 a b d ha hb hd);rfl)|((with_reducible apply qaj);rfl;(exact qq7 c d a hc hd ha);rfl)|((with_reducible apply qaj);rfl;(exact qq7 c d b hc hd hb);rfl))|refine zQ ?_|(refine zC ?_ ?_<;>first|intro h|simp)|(refine zG ?_ ?_<;>first|intro h|simp)|refine zE ?_|fail)
 all_goals (unfold qfB;simp[*])
theorem qkA(a b c d:Pt)(ha:ptOK a=true)(hb:ptOK b=true)(hc:ptOK c=true)(hd:ptOK d=true):Contract Tryz.prog 199 [.agg (encPt a),.agg (encPt b),.agg (encPt c),.agg (encPt d)] (.ret (.bool (qfB a b c d))):=by
 have s1:=qjA (crossE a b c) (crossE a b d)
 have s2:=qjA (crossE c d a) (crossE c d b)
 refine zT mix Tryz.func199 Tryz.ntmps199 Tryz.results199 rfl rfl rfl ?_;simp only[qac,Nat.reduceAdd]
 repeat'(first|((with_reducible (show qan _ (.call _) _ _ _ _));first|((with_reducible apply qad);rfl;(exact qdp a b c ha hb hc);rfl)|((with_reducible apply qad);rfl;(exact qdp a b d ha hb hd);rfl)|((with_reducible apply qad);rfl;(exact qdp c d a hc hd ha);rfl)|((with_reducible apply qad);rfl;(exact qdp c d b hc hd hb);rfl)|((with_reducible apply qaj);rfl;(exact c_rorient a b c ha hb hc);rfl)|((with_reducible apply qaj);rfl;(exact c_rorient a b d ha hb hd);rfl)|((with_reducible apply qaj);rfl;(exact c_rorient c d a hc hd ha);rfl)|((with_reducible apply qaj);rfl;(exact c_rorient c d b hc hd hb);rfl))|refine zQ ?_|(refine zC ?_ ?_<;>first|intro h|simp)|(refine zG ?_ ?_<;>first|intro h|simp)|refine zE ?_|fail)
 all_goals (unfold qfB;simp[*])
end Go.Pv.Geo

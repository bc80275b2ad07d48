import Derived.Test.YtfklpkgdobdbpaaGreatCAE
/- Part of the proofs over YtfklpkgdobdbpaaGreat: PH1. -/
set_option linter.unusedVariables false
set_option linter.unusedSimpArgs false
set_option linter.unnecessarySimpa false
open Go Go.Proofs Go.Pv
set_option maxHeartbeats 8000000
set_option maxRecDepth 100000
set_option linter.unusedSimpArgs false
set_option linter.unusedVariables false
namespace Go.Pv.Geo
theorem mix:Tryz.prog.follows .mixedOrders=true:=by decide +kernel
structure Pt where
 x:Int
 y:Int
 deriving DecidableEq
def encPt(p:Pt):List D:=[.int .i64 p.x,.int .i64 p.y]
def ptOK(p:Pt):Bool:=decide ((-1000000≤p.x∧p.x≤1000000)∧(-1000000≤p.y∧p.y≤1000000))
theorem qeQ{p:Pt}(h:ptOK p=true):(-1000000≤p.x∧p.x≤1000000)∧ -1000000≤p.y∧p.y≤1000000:=by simpa[ptOK]using h
theorem qwY{p:Pt}(h:¬((-1000000≤p.x∧p.x≤1000000)∧(-1000000≤p.y∧p.y≤1000000))):true= !ptOK p:=by
 simp only[ptOK,decide_eq_false h,Bool.not_false]
theorem qwZ{p:Pt}(h:(-1000000≤p.x∧p.x≤1000000)∧(-1000000≤p.y∧p.y≤1000000)):false= !ptOK p:=by
 simp only[ptOK,decide_eq_true h,Bool.not_true]
def qcs{α:Type}(p:α→Bool)(l:List α):Int:=match l.findIdx? p with
 |some i=>i
 |none=> -1
theorem qa8{α:Type}{p:α→Bool}{l:List α}(h:∀x∈l,p x=false):qcs p l= -1:=by
 have:l.findIdx? p=none:=by simpa using h
 rw[qcs,this]
theorem qa1{α:Type}{p:α→Bool}{l:List α}{i:Nat}(hi:i<l.length)(h:p l[i]=true)(hb:∀j (hj:j<i),p (l[j]'(by omega))=false):qcs p l=i:=by
 have:l.findIdx? p=some i:=by
  rw[List.findIdx?_eq_some_iff_getElem]
  exact⟨hi,h,fun j hj=>by simpa using hb j hj⟩
 rw[qcs,this]
theorem qcZ{α:Type}{p:α→Bool}{l:List α}:decide (0≤qcs p l)=l.any p:=by
 unfold qcs
 cases h:l.findIdx? p with
 |none=>
  have:l.any p=false:=by
   rw[List.findIdx?_eq_none_iff]at h
   rw[List.any_eq_false]
   intro x hx
   simp[h x hx]
  rw[this];rfl
 |some i=>
  have:l.any p=true:=by
   rw[List.findIdx?_eq_some_iff_getElem]at h
   obtain⟨hi,h1,_⟩:=h
   exact List.any_eq_true.2 ⟨l[i],List.getElem_mem hi,h1⟩
  rw[this]
  simp
theorem c_within(n lo hi:Int):Contract Tryz.prog 84 [.int .i64 n,.int .i64 lo,.int .i64 hi] (.ret (.bool (decide (lo≤n∧n≤hi)))):=by
 refine zT mix Tryz.func84 Tryz.ntmps84 Tryz.results84 rfl rfl rfl ?_;simp only[qab,Nat.reduceAdd]
 repeat'(first|refine zQ ?_|(refine zG ?_ ?_<;>first|intro h|simp)|refine zE ?_|fail)
 all_goals (simp at *;try omega)
theorem qEW(p:Pt):Contract Tryz.prog 235 [.agg (encPt p)] (.ret (.bool (ptOK p))):=by
 refine zT mix Tryz.func235 Tryz.ntmps235 Tryz.results235 rfl rfl rfl ?_;simp only[qab,Nat.reduceAdd]
 repeat'(first|((with_reducible apply qae);rfl;(exact c_within _ _ _);rfl)|refine zQ ?_|(refine zG ?_ ?_<;>first|intro h|simp)|refine zE ?_|fail)
 all_goals (unfold ptOK;first|exact decide_eq_decide.2 (by omega)|exact(decide_eq_true (by omega)).symm|exact(decide_eq_false (by omega)).symm|trace_state)
theorem quV(p:Pt):Contract Tryz.prog 283 [.agg (encPt p)] (.ret (.bool (!ptOK p))):=by
 refine zT mix Tryz.func283 Tryz.ntmps283 Tryz.results283 rfl rfl rfl ?_;simp only[qab,Nat.reduceAdd]
 repeat'(first|refine zQ ?_|(refine zG ?_ ?_<;>first|intro h|simp)|refine zE ?_|fail)
 ·by_cases h4:1000000<p.y
  ·rw[decide_eq_true h4];exact qwY (p:=p) (by omega)
  ·rw[decide_eq_false h4];exact qwZ (p:=p) (by omega)
 all_goals exact qwY (p:=p) (by omega)
theorem qra(l:List Pt)(hl:l.length<1000000000000)(g:FuncId)(p:Pt→Bool)(hf:∀x∈l,Contract Tryz.prog g [.agg (encPt x)] (.ret (.bool (p x)))):
  Contract Tryz.prog 305 [.sl (l.map encPt),.clo (.func g) [] []] (.ret (.int .i64 (qcs p l))):=by
 refine zT mix Tryz.func305 Tryz.ntmps305 Tryz.results305 rfl rfl rfl ?_;simp only[qab,Nat.reduceAdd]
 repeat'(first|refine zQ ?_|fail)
 refine qad (l.length) (fun i=>⟨[(8,.int .i64 i),(7,.int .i64 l.length),(0,.sl (l.map encPt)),(1,.clo (.func g) [] [])],[],0,19⟩) (fun i=>∀j (hj:j<i) (hj':j<l.length),p l[j]=false) (qaa (k:=0) (ns:=[]) (ks:=[8,7,0,1]) [] rfl (by simp) rfl) (by omega) ?_
 intro i hi hC
 repeat'(first|refine zQ ?_|(refine zI ?_;intro hlt)|(refine zC ?_ ?_<;>first|intro h|simp)|refine zE ?_|fail)
 ·refine qa3 (d1:=.agg (encPt l[i])) rfl rfl (fun _ _=>rfl) (hf l[i] (List.getElem_mem _)) rfl ?_
  repeat'(first|refine zQ ?_|(refine zC ?_ ?_<;>first|intro h|simp)|refine zE ?_|fail)
  ·have h2:i<l.length:=by omega
   exact(qa1 h2 h fun j hj=>hC j hj (by omega)).symm
  ·have h2:i<l.length:=by omega
   refine⟨by omega,fun j hj hj'=>?_,qaa (k:=0) (ns:=[]) (ks:=[8,7,0,1]) [] rfl (by simp) rfl⟩
   rcases Nat.lt_succ_iff_lt_or_eq.1 hj with h'|rfl
   ·exact hC j h' hj'
   ·exact h
 ·refine(qa8 fun x hx=>?_).symm
  obtain⟨j,hj,rfl⟩:=List.mem_iff_getElem.1 hx
  exact hC j (by omega) hj
theorem qmi(l:List Pt)(hl:l.length<1000000000000)(g:FuncId)(p:Pt→Bool)(hf:∀x∈l,Contract Tryz.prog g [.agg (encPt x)] (.ret (.bool (p x)))):
  Contract Tryz.prog 282 [.sl (l.map encPt),.clo (.func g) [] []] (.ret (.bool (l.any p))):=by
 refine zT mix Tryz.func282 Tryz.ntmps282 Tryz.results282 rfl rfl rfl ?_;simp only[qab,Nat.reduceAdd]
 repeat'(first|((with_reducible apply qaj);rfl;(exact qra l hl g p hf);rfl)|refine zQ ?_|refine zE ?_|fail)
 exact qcZ
theorem qlh(l:List Pt)(hl:l.length<1000000000000):Contract Tryz.prog 253 [.sl (l.map encPt)] (.ret (.bool (l.any fun p=> !ptOK p))):=by
 refine zT mix Tryz.func253 Tryz.ntmps253 Tryz.results253 rfl rfl rfl ?_;simp only[qab,Nat.reduceAdd]
 repeat'(first|((with_reducible apply qae);rfl;(exact qmi l hl 283 (fun p=> !ptOK p) fun x _=>quV x);rfl)|(with_reducible rfl)|refine zQ ?_|refine zE ?_|fail)
theorem qli(a b:Pt):Contract Tryz.prog 253 [.sl [encPt a,encPt b]] (.ret (.bool (!(ptOK a&&ptOK b)))):=by
 have:=qlh [a,b] (by simp)
 simpa[Bool.not_and]using this
theorem qlj(a b c:Pt):Contract Tryz.prog 253 [.sl [encPt a,encPt b,encPt c]] (.ret (.bool (!(ptOK a&&ptOK b&&ptOK c)))):=by
 have:=qlh [a,b,c] (by simp)
 simpa[Bool.not_and,Bool.or_assoc]using this
theorem qfO{u v A B:Int}(hu: -A≤u∧u≤A)(hv: -B≤v∧v≤B): -(A*B)≤u*v∧u*v≤A*B:=by
 have key:∀y:Int,0≤y∧y≤B→ -(A*B)≤u*y∧u*y≤A*B:=fun y hy=>by
  have h1:u*y≤A*y:=Int.mul_le_mul_of_nonneg_right hu.2 hy.1
  have h2: -A*y≤u*y:=Int.mul_le_mul_of_nonneg_right hu.1 hy.1
  have h3:A*y≤A*B:=Int.mul_le_mul_of_nonneg_left hy.2 (by omega)
  rw[Int.neg_mul]at h2
  omega
 by_cases h:0≤v
 ·exact key v ⟨h,hv.2⟩
 ·have:=key (-v) ⟨by omega,by omega⟩
  rw[Int.mul_neg]at this
  omega
def crossE(a b c:Pt):Int:=(b.x-a.x)*(c.y-a.y)-(b.y-a.y)*(c.x-a.x)
def qqD(a b c:Pt):Int:=(b.x-a.x)*(c.x-a.x)+(b.y-a.y)*(c.y-a.y)
theorem qD4{u v:Int}(hu: -2000000≤u∧u≤2000000)(hv: -2000000≤v∧v≤2000000): -4000000000000≤u*v∧u*v≤4000000000000:=by
 have:=qfO hu hv;omega
theorem qn7{a b c:Pt}(ha:ptOK a=true)(hb:ptOK b=true)(hc:ptOK c=true):(-4000000000000≤(b.x-a.x)*(c.y-a.y)∧(b.x-a.x)*(c.y-a.y)≤4000000000000)∧(-4000000000000≤(b.y-a.y)*(c.x-a.x)∧(b.y-a.y)*(c.x-a.x)≤4000000000000):=by
 have h1:=qeQ ha
 have h2:=qeQ hb
 have h3:=qeQ hc
 exact⟨qD4 (by omega) (by omega),qD4 (by omega) (by omega)⟩
theorem qw0{a b c:Pt}(ha:ptOK a=true)(hb:ptOK b=true)(hc:ptOK c=true):(-4000000000000≤(b.x-a.x)*(c.x-a.x)∧(b.x-a.x)*(c.x-a.x)≤4000000000000)∧(-4000000000000≤(b.y-a.y)*(c.y-a.y)∧(b.y-a.y)*(c.y-a.y)≤4000000000000):=by
 have h1:=qeQ ha
 have h2:=qeQ hb
 have h3:=qeQ hc
 exact⟨qD4 (by omega) (by omega),qD4 (by omega) (by omega)⟩
theorem crossE_bd{a b c:Pt}(ha:ptOK a=true)(hb:ptOK b=true)(hc:ptOK c=true): -8000000000000≤crossE a b c∧crossE a b c≤8000000000000:=by
 have:=qn7 ha hb hc;unfold crossE;omega
theorem qw1{a b c:Pt}(ha:ptOK a=true)(hb:ptOK b=true)(hc:ptOK c=true): -8000000000000≤qqD a b c∧qqD a b c≤8000000000000:=by
 have:=qw0 ha hb hc;unfold qqD;omega
theorem qji(a b c:Pt)(ha:ptOK a=true)(hb:ptOK b=true)(hc:ptOK c=true):Contract Tryz.prog 285 [.agg (encPt a),.agg (encPt b),.agg (encPt c)] (.ret (.int .i64 (crossE a b c))):=by
 have h1:=qeQ ha
 have h2:=qeQ hb
 have h3:=qeQ hc
 have h4:=qn7 ha hb hc
 refine zT mix Tryz.func285 Tryz.ntmps285 Tryz.results285 rfl rfl rfl ?_;simp only[qab,Nat.reduceAdd]
 repeat'(first|refine zQ ?_|refine zE ?_|fail)
 all_goals rfl
theorem qn8(a b c:Pt)(ha:ptOK a=true)(hb:ptOK b=true)(hc:ptOK c=true):Contract Tryz.prog 201 [.agg (encPt a),.agg (encPt b),.agg (encPt c)] (.ret (.int .i64 (crossE a b c))):=by
 have h1:=qeQ ha
 have h2:=qeQ hb
 have h3:=qeQ hc
 have h4:=qn7 ha hb hc
 refine zT mix Tryz.func201 Tryz.ntmps201 Tryz.results201 rfl rfl rfl ?_;simp only[qab,Nat.reduceAdd]
 repeat'(first|refine zQ ?_|refine zE ?_|fail)
 all_goals rfl
theorem qEX(a b c:Pt)(ha:ptOK a=true)(hb:ptOK b=true)(hc:ptOK c=true):Contract Tryz.prog 308 [.agg (encPt a),.agg (encPt b),.agg (encPt c)] (.ret (.int .i64 (qqD a b c))):=by
 have h1:=qeQ ha
 have h2:=qeQ hb
 have h3:=qeQ hc
 have h4:=qw0 ha hb hc
 refine zT mix Tryz.func308 Tryz.ntmps308 Tryz.results308 rfl rfl rfl ?_;simp only[qab,Nat.reduceAdd]
 repeat'(first|refine zQ ?_|refine zE ?_|fail)
 all_goals rfl
theorem qBj(a b c:Pt)(ha:ptOK a=true)(hb:ptOK b=true)(hc:ptOK c=true):Contract Tryz.prog 202 [.agg (encPt a),.agg (encPt b),.agg (encPt c)] (.ret (.int .i64 (qqD a b c))):=by
 have h1:=qeQ ha
 have h2:=qeQ hb
 have h3:=qeQ hc
 have h4:=qw0 ha hb hc
 refine zT mix Tryz.func202 Tryz.ntmps202 Tryz.results202 rfl rfl rfl ?_;simp only[qab,Nat.reduceAdd]
 repeat'(first|refine zQ ?_|refine zE ?_|fail)
 all_goals rfl
def sqE(a b:Pt):Int:=qqD a b b
theorem qw2(a b:Pt)(ha:ptOK a=true)(hb:ptOK b=true):Contract Tryz.prog 203 [.agg (encPt a),.agg (encPt b)] (.ret (.int .i64 (sqE a b))):=by
 refine zT mix Tryz.func203 Tryz.ntmps203 Tryz.results203 rfl rfl rfl ?_;simp only[qab,Nat.reduceAdd]
 repeat'(first|((with_reducible apply qaj);rfl;(exact qBj a b b ha hb hb);rfl)|refine zQ ?_|refine zE ?_|fail)
 rfl
def signE(n:Int):Int:=if n<0 then -1 else if 0<n then 1 else 0
theorem qEY(n:Int):Contract Tryz.prog 200 [.int .i64 n] (.ret (.int .i64 (signE n))):=by
 refine zT mix Tryz.func200 Tryz.ntmps200 Tryz.results200 rfl rfl rfl ?_;simp only[qab,Nat.reduceAdd]
 repeat'(first|refine zQ ?_|(refine zC ?_ ?_<;>first|intro h|simp)|refine zE ?_|fail)
 all_goals (unfold signE;(repeat' split)<;>first|rfl|(exfalso;omega))
theorem c_rorient(a b c:Pt)(ha:ptOK a=true)(hb:ptOK b=true)(hc:ptOK c=true):Contract Tryz.prog 139 [.agg (encPt a),.agg (encPt b),.agg (encPt c)] (.ret (.int .i64 (signE (crossE a b c)))):=by
 refine zT mix Tryz.func139 Tryz.ntmps139 Tryz.results139 rfl rfl rfl ?_;simp only[qab,Nat.reduceAdd]
 repeat'(first|((with_reducible (show qap _ (.call _) _ _ _ _));first|((with_reducible apply qaj);rfl;(exact qn8 a b c ha hb hc);rfl)|((with_reducible apply qaj);rfl;(exact qEY _);rfl))|(with_reducible rfl)|refine zQ ?_|refine zE ?_|fail)
theorem qCF(n:Int):Contract Tryz.prog 313 [.int .i64 n] (.ret (.bool false)):=by
 refine zT mix Tryz.func313 Tryz.ntmps313 Tryz.results313 rfl rfl rfl ?_;simp only[qab,Nat.reduceAdd]
 repeat'(first|refine zQ ?_|refine zE ?_|fail)
 all_goals simp
def qKg(a b:Int):Int:=if a<b then -1 else if b<a then 1 else 0
theorem qw3(n m:Int):Contract Tryz.prog 306 [.int .i64 n,.int .i64 m] (.ret (.int .i64 (qKg n m))):=by
 refine zT mix Tryz.func306 Tryz.ntmps306 Tryz.results306 rfl rfl rfl ?_;simp only[qab,Nat.reduceAdd]
 repeat'(first|((with_reducible apply qae);rfl;(exact qCF _);rfl)|refine zQ ?_|(refine zC ?_ ?_<;>first|intro h|simp)|refine zE ?_|fail)
 all_goals (unfold qKg;(repeat' split)<;>first|rfl|(exfalso;omega))
theorem quW(n:Int):Contract Tryz.prog 306 [.int .i64 n,.int .i64 0] (.ret (.int .i64 (signE n))):=qw3 n 0
theorem qsz(a b c:Pt)(ha:ptOK a=true)(hb:ptOK b=true)(hc:ptOK c=true):Contract Tryz.prog 286 [.agg (encPt a),.agg (encPt b),.agg (encPt c)] (.ret (.int .i64 (signE (crossE a b c)))):=by
 refine zT mix Tryz.func286 Tryz.ntmps286 Tryz.results286 rfl rfl rfl ?_;simp only[qab,Nat.reduceAdd]
 repeat'(first|((with_reducible (show qap _ (.call _) _ _ _ _));first|((with_reducible apply qaj);rfl;(exact qji a b c ha hb hc);rfl)|((with_reducible apply qaj);rfl;(exact quW _);rfl))|(with_reducible rfl)|refine zQ ?_|refine zE ?_|fail)
def onE(a b p:Pt):Bool:=decide (crossE a b p=0∧(min a.x b.x≤p.x∧p.x≤max a.x b.x)∧(min a.y b.y≤p.y∧p.y≤max a.y b.y))
theorem qCG(a b p:Pt)(ha:ptOK a=true)(hb:ptOK b=true)(hp:ptOK p=true):Contract Tryz.prog 284 [.agg (encPt a),.agg (encPt b),.agg (encPt p)] (.ret (.bool (onE a b p))):=by
 refine zT mix Tryz.func284 Tryz.ntmps284 Tryz.results284 rfl rfl rfl ?_;simp only[qab,Nat.reduceAdd]
 repeat'(first|((with_reducible apply qaj);rfl;(exact qji a b p ha hb hp);rfl)|refine zQ ?_|(refine zG ?_ ?_<;>first|intro h|simp)|refine zE ?_|fail)
 all_goals (unfold onE;first|exact(decide_eq_true (by omega)).symm|exact(decide_eq_false (by omega)).symm|(exact decide_eq_decide.2 (by omega))|trace_state)
theorem qdH(a b p:Pt)(ha:ptOK a=true)(hb:ptOK b=true)(hp:ptOK p=true):Contract Tryz.prog 236 [.agg (encPt a),.agg (encPt b),.agg (encPt p)] (.ret (.bool (onE a b p))):=by
 refine zT mix Tryz.func236 Tryz.ntmps236 Tryz.results236 rfl rfl rfl ?_;simp only[qab,Nat.reduceAdd]
 repeat'(first|((with_reducible (show qap _ (.call _) _ _ _ _));first|((with_reducible apply qaj);rfl;(exact qn8 a b p ha hb hp);rfl)|((with_reducible apply qae);rfl;(exact c_within _ _ _);rfl))|refine zQ ?_|(refine zG ?_ ?_<;>first|intro h|simp)|refine zE ?_|fail)
 all_goals (unfold onE;first|exact(decide_eq_true (by omega)).symm|exact(decide_eq_false (by omega)).symm|(exact decide_eq_decide.2 (by omega))|trace_state)
theorem qkf(a b:Int): -1≤signE a*signE b∧signE a*signE b≤1:=by
 have h:∀n,-1≤signE n∧signE n≤1:=fun n=>by unfold signE;(repeat' split)<;>omega
 have:=qfO (A:=1) (B:=1) (h a) (h b)
 omega
def qf7(a b c d:Pt):Bool:=(onE a b c||onE a b d||onE c d a||onE c d b)||(decide (signE (crossE a b c)*signE (crossE a b d)<0)&&decide (signE (crossE c d a)*signE (crossE c d b)<0))
theorem qpx(a b c d:Pt)(ha:ptOK a=true)(hb:ptOK b=true)(hc:ptOK c=true)(hd:ptOK d=true):Contract Tryz.prog 255 [.agg (encPt a),.agg (encPt b),.agg (encPt c),.agg (encPt d)] (.ret (.bool (qf7 a b c d))):=by
 have s1:=qkf (crossE a b c) (crossE a b d)
 have s2:=qkf (crossE c d a) (crossE c d b)
 refine zT mix Tryz.func255 Tryz.ntmps255 Tryz.results255 rfl rfl rfl ?_;simp only[qab,Nat.reduceAdd]
 repeat'(first|((with_reducible (show qap _ (.call _) _ _ _ _));first|((with_reducible apply qae);rfl;(exact qCG a b c ha hb hc);rfl)|((with_reducible apply qae);rfl;(exact qCG a b d ha hb hd);rfl)|((with_reducible apply qae);rfl;(exact qCG c d a hc hd ha);rfl)|((with_reducible apply qae);rfl;(exact qCG c d b hc hd hb);rfl)|((with_reducible apply qaj);rfl;(exact qsz a b c ha hb hc);rfl)|((with_reducible apply qaj);rfl;(exact qsz a b d ha hb hd);rfl)|((with_reducible apply qaj);rfl;(exact qsz c d a hc hd ha);rfl)|((with_reducible apply qaj);rfl;(exact qsz c d b hc hd hb);rfl))|refine zQ ?_|(refine zC ?_ ?_<;>first|intro h|simp)|(refine zG ?_ ?_<;>first|intro h|simp)|refine zE ?_|fail)
 all_goals (unfold qf7;simp[*])
theorem qlk(a b c d:Pt)(ha:ptOK a=true)(hb:ptOK b=true)(hc:ptOK c=true)(hd:ptOK d=true):Contract Tryz.prog 199 [.agg (encPt a),.agg (encPt b),.agg (encPt c),.agg (encPt d)] (.ret (.bool (qf7 a b c d))):=by
 have s1:=qkf (crossE a b c) (crossE a b d)
 have s2:=qkf (crossE c d a) (crossE c d b)
 refine zT mix Tryz.func199 Tryz.ntmps199 Tryz.results199 rfl rfl rfl ?_;simp only[qab,Nat.reduceAdd]
 repeat'(first|((with_reducible (show qap _ (.call _) _ _ _ _));first|((with_reducible apply qae);rfl;(exact qdH a b c ha hb hc);rfl)|((with_reducible apply qae);rfl;(exact qdH a b d ha hb hd);rfl)|((with_reducible apply qae);rfl;(exact qdH c d a hc hd ha);rfl)|((with_reducible apply qae);rfl;(exact qdH c d b hc hd hb);rfl)|((with_reducible apply qaj);rfl;(exact c_rorient a b c ha hb hc);rfl)|((with_reducible apply qaj);rfl;(exact c_rorient a b d ha hb hd);rfl)|((with_reducible apply qaj);rfl;(exact c_rorient c d a hc hd ha);rfl)|((with_reducible apply qaj);rfl;(exact c_rorient c d b hc hd hb);rfl))|refine zQ ?_|(refine zC ?_ ?_<;>first|intro h|simp)|(refine zG ?_ ?_<;>first|intro h|simp)|refine zE ?_|fail)
 all_goals (unfold qf7;simp[*])
end Go.Pv.Geo

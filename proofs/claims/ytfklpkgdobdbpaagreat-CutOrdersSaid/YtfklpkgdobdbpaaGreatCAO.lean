import Derived.Test.YtfklpkgdobdbpaaGreatCAN
/- Part of the proofs over YtfklpkgdobdbpaaGreat: PH20, PH21. -/
set_option linter.unusedVariables false
set_option linter.unusedSimpArgs false
set_option linter.unnecessarySimpa false
open Go Go.Proofs Go.Pv
set_option maxHeartbeats 8000000
set_option maxRecDepth 100000
set_option linter.unusedSimpArgs false
set_option linter.unusedVariables false
namespace Go.Pv.Geo
instance qKh:TInt Tryz.prog 3 .i64:=⟨by kernel_rfl⟩
instance qMu:TFloat Tryz.prog 342:=⟨by kernel_rfl⟩
theorem qLF:Extern.findNext Tryz.f317=none:=by kernel_rfl
theorem qLG:Extern.find Tryz.f317=some Extern.MathSqrt.sqrt:=by kernel_rfl
theorem qLH:(Tryz.f317.name== "runtime.NumGoroutine")=false:=by kernel_rfl
theorem qLI:Tryz.f317.body.isNone=true:=by kernel_rfl
theorem qCH(x r:Nat)(h:FloatKind.f64.format.sqrt x=some r)(w:World):(callFunc 317 #[.float .f64 x]).run Tryz.prog w=.ok (.value (.float .f64 r)) w:=by
 have hs:Extern.MathSqrt.sqrt #[.float .f64 x]=pure (.float .f64 r):=by
  show(match FloatKind.f64.format.sqrt x with
   |some r=>(pure (Value.float .f64 r):Sem Value)
   |none=>do pure (Value.float .f64 (←choose (.nanBits .f64 x x))))=_
  rw[h]
 unfold callFunc
 have n1:¬Tryz.f317.name= "runtime.NumGoroutine" :=by simpa using qLH
 have n2:Tryz.f317.body=none:=by simpa using qLI
 simp[Tryz.func317,qLF,qLG,n1,n2,hs]
theorem quX(x r:Nat)(h:FloatKind.f64.format.sqrt x=some r)(w:World):Calls Tryz.prog 314 #[.float .f64 x] w fun e w'=>e=.returned (.float .f64 r)∧w'=w:=by
 have h1:=qCH x r h
 go_enter Tryz.func314,Tryz.ntmps314
 go_wp2
 go_ret
 exact⟨rfl,rfl⟩
theorem qEZ(x r:Nat)(h:FloatKind.f64.format.sqrt x=some r):Contract Tryz.prog 314 [.float .f64 x] (.ret (.float .f64 r)):=by
 refine⟨⟨Tryz.f314,Tryz.func314,rfl,by kernel_rfl⟩,fun S w args hS ⟨hl,ha⟩=>?_⟩
 have e:args= #[.float .f64 x]:=by
  match args,hl,ha with
  |⟨[v]⟩,_,ha=>
   have:=ha 0 v _ rfl rfl
   cases this with
   |float k n=>rfl
 subst e
 refine(quX x r h w).mono ?_
 rintro e w' ⟨rfl,rfl⟩
 refine⟨Go.Pv.Below.refl _ _,fun _=>False,fun g hg=>hg.elim,_,rfl,fun n=>⟨fun _=>.pending,⟨fun b blk hb=>?_,fun b _=>.inr rfl,fun b b' g h=>h.elim,fun b g h=>h.elim,fun g hg=>hg.elim⟩,.pure _ _ (.float _ _),fun b _=>rfl⟩⟩
 cases hb
def qll(s n:Int):Prop:=0≤n∧s≤n*n∧∀m,0≤m→m<n→m*m<s
theorem qw4{s n m:Int}(h:qll s n)(h':qll s m):n=m:=by
 rcases Int.lt_trichotomy n m with hlt|he|hlt
 ·have:=h'.2.2 n h.1 hlt;have:=h.2.1;omega
 ·exact he
 ·have:=h.2.2 m h'.1 hlt;have:=h'.2.1;omega
noncomputable def spanE(s:Int):Int:=Classical.epsilon (qll s)
theorem qkg{s n:Int}(h:qll s n):spanE s=n:=qw4 (Classical.epsilon_spec (p:=qll s) ⟨n,h⟩) h
theorem qhA{m n:Int}(h0:0≤m)(h:m≤n):m*m≤n*n:=Int.mul_le_mul h h h0 (by omega)
theorem sqE_bd{a b:Pt}(ha:ptOK a=true)(hb:ptOK b=true):0≤sqE a b∧sqE a b≤8000000000000:=by
 have h1:=qeQ ha
 have h2:=qeQ hb
 have m1:=qD4 (u:=b.x-a.x) (v:=b.x-a.x) (by omega) (by omega)
 have m2:=qD4 (u:=b.y-a.y) (v:=b.y-a.y) (by omega) (by omega)
 have n1:0≤(b.x-a.x)*(b.x-a.x):=by rcases Int.le_total 0 (b.x-a.x)with h|h;exact Int.mul_nonneg h h;exact Int.mul_nonneg_of_nonpos_of_nonpos h h
 have n2:0≤(b.y-a.y)*(b.y-a.y):=by rcases Int.le_total 0 (b.y-a.y)with h|h;exact Int.mul_nonneg h h;exact Int.mul_nonneg_of_nonpos_of_nonpos h h
 simp only[sqE,qqD]
 omega
theorem qw5{s:Int}:∀N:Nat,s≤(N:Int)*N→∃n:Int,n≤N∧qll s n
 |0,h=>⟨0,by omega,by omega,by omega,fun m h1 h2=>by omega⟩
 |N+1,h=>by
  by_cases h':s≤(N:Int)*N
  ·obtain⟨n,h1,h2⟩:=qw5 N h'
   exact⟨n,by omega,h2⟩
  ·exact⟨((N+1:Nat):Int),by omega,by omega,h,fun m h1 h2=>by have:=qhA h1 (show m≤(N:Int)by omega);omega⟩
theorem span_is{s:Int}(h:s≤8000000000000):qll s (spanE s)∧spanE s≤4000000:=by
 obtain⟨n,h1,h2⟩:=qw5 (s:=s) 4000000 (by omega)
 rw[qkg h2]
 exact⟨h2,h1⟩
theorem qw6(a b:Pt)(ha:ptOK a=true)(hb:ptOK b=true):Contract Tryz.prog 309 [.agg (encPt a),.agg (encPt b)] (.ret (.int .i64 (spanE (sqE a b)))):=by
 have hbd:=sqE_bd ha hb
 have hd:Contract Tryz.prog 308 [.agg (encPt a),.agg (encPt b),.agg (encPt b)] (.ret (.int .i64 (sqE a b))):=qEX a b b ha hb hb
 generalize sqE a b=s at*
 obtain⟨r,n0,hr,hn,hn0⟩:=Sq.sqrt_small s.toNat (by omega)
 have hsn:((s.toNat:Nat):Int)=s:=by omega
 rw[hsn]at hr
 have hS:=qEZ _ _ hr
 refine zT mix Tryz.func309 Tryz.ntmps309 Tryz.results309 rfl rfl rfl ?_;simp only[qab,Nat.reduceAdd]
 repeat'(first|((with_reducible apply qq6);rfl;(exact hS);rfl)|refine zQ ?_|refine zF hd ?_|fail)
 refine quR rfl hn (by omega) rfl ?_
 repeat'(first|refine zQ ?_|fail)
 refine qib (fun n:Int=>(20000000-n).toNat) (fun n=>⟨[(6,.int .i64 n),(5,.int .i64 s)],[],0,36⟩) (fun n=>0≤n∧n≤16777216) (n0:Int)
  (qaa (nx:=0) (k:=0) (ns:=[]) (ks:=[6,5]) [] rfl (by simp) (by kernel_rfl)) (by omega) ?_
 rintro n ⟨h1,h2⟩
 have hnn:=qhA h1 h2
 have hnn0:=Int.mul_nonneg h1 h1
 repeat'(first|refine zQ ?_|(refine zC ?_ ?_<;>first|intro h|simp)|fail)
 ·have h3:n<3000000:=by
   rcases Int.lt_or_le n 3000000 with h|h
   ·exact h
   ·have:=qhA (show(0:Int)≤3000000 by omega) h;omega
  exact⟨n+1,by omega,⟨by omega,by omega⟩,qaa (nx:=0) (k:=0) (ns:=[]) (ks:=[6,5]) [] rfl (by simp) (by kernel_rfl)⟩
 refine qib (fun n:Int=>n.toNat) (fun n=>⟨[(6,.int .i64 n),(5,.int .i64 s)],[],0,36⟩) (fun n=>(0≤n∧n≤16777216)∧s≤n*n) n
  (qaa (nx:=0) (k:=0) (ns:=[]) (ks:=[6,5]) [] rfl (by simp) (by kernel_rfl)) ⟨⟨h1,h2⟩,by omega⟩ ?_
 clear hnn hnn0 h1 h2
 rintro m ⟨⟨h1,h2⟩,h3⟩
 have hmm:0<m→0≤(m-1)*(m-1)∧(m-1)*(m-1)≤281474976710656:=fun h=>⟨Int.mul_nonneg (by omega) (by omega),by have:=qhA (show 0≤m-1 by omega) (show m-1≤16777216 by omega);omega⟩
 by_cases h0:0<m
 ·have hm2:=hmm h0
  repeat'(first|refine zQ ?_|(refine zC ?_ ?_<;>first|intro h|simp)|(refine zG ?_ ?_<;>first|intro h|simp)|refine zE ?_|fail)
  all_goals first
   |exact⟨m-1,by omega,⟨⟨by omega,by omega⟩,by omega⟩,qaa (nx:=0) (k:=0) (ns:=[]) (ks:=[6,5]) [] rfl (by simp) (by kernel_rfl)⟩
   |exact(qkg ⟨h1,h3,fun k hk1 hk2=>by have:=qhA hk1 (show k≤m-1 by omega);omega⟩).symm
   |(exfalso;omega)
   |trace_state
 ·repeat'(first|refine zQ ?_|(refine zC ?_ ?_<;>first|intro h|simp)|(refine zG ?_ ?_<;>first|intro h|simp)|refine zE ?_|fail)
  all_goals first
   |exact(qkg ⟨h1,h3,fun k hk1 hk2=>by omega⟩).symm
   |(exfalso;omega)
   |trace_state
noncomputable def spanX(a b:Pt):Int:=if(ptOK a&&ptOK b)=true then spanE (sqE a b)else 0
theorem c_Span(a b:Pt):Contract Tryz.prog 291 [.agg (encPt a),.agg (encPt b)] (.ret (.int .i64 (spanX a b))):=by
 have h1:=qli a b
 unfold spanX
 cases hok:ptOK a&&ptOK b
 ·rw[hok]at h1
  refine zT mix Tryz.func291 Tryz.ntmps291 Tryz.results291 rfl rfl rfl ?_;simp only[qab,Nat.reduceAdd]
  repeat'(first|((with_reducible apply qae);(exact qbT rfl (by simp) rfl);(exact h1);rfl)|refine zQ ?_|refine zE ?_|fail)
  all_goals rfl
 ·rw[hok]at h1
  obtain⟨ha,hb⟩:=ok2 hok
  refine zT mix Tryz.func291 Tryz.ntmps291 Tryz.results291 rfl rfl rfl ?_;simp only[qab,Nat.reduceAdd]
  repeat'(first|((with_reducible (show qap _ (.call _) _ _ _ _));first|((with_reducible apply qae);(exact qbT rfl (by simp) rfl);(exact h1);rfl)|((with_reducible apply qaj);rfl;(exact qw6 a b ha hb);rfl))|refine zQ ?_|refine zE ?_|fail)
  all_goals rfl
def eqP(a b:Pt):Bool:=decide (a.x=b.x)&&(decide (a.y=b.y)&&true)
theorem qCI{a b:Pt}:eqP a b=true↔a=b:=by cases a;cases b;simp[eqP]
theorem qsA{a b:Pt}(h:eqP a b=false):0<sqE a b:=by
 have hne:a≠b:=fun e=>by rw[qCI.2 e]at h;cases h
 have s1:∀u:Int,0≤u*u:=fun u=>by rcases Int.le_total 0 u with h|h;exact Int.mul_nonneg h h;exact Int.mul_nonneg_of_nonpos_of_nonpos h h
 have s2:∀u:Int,u≠0→0<u*u:=fun u hu=>by
  rcases Int.lt_or_gt_of_ne hu with h|h
  ·exact Int.mul_pos_of_neg_of_neg h h
  ·exact Int.mul_pos h h
 have h1:=s1 (b.x-a.x)
 have h2:=s1 (b.y-a.y)
 simp only[sqE,qqD]
 by_cases hx:b.x-a.x=0
 ·have hy:b.y-a.y≠0:=fun hy=>hne (by cases a;cases b;simp at hx hy ⊢;omega)
  have:=s2 _ hy
  omega
 ·have:=s2 _ hx
  omega
theorem qkh{s:Int}(h:0<s)(h':s≤8000000000000):0<spanE s:=by
 have h1:=(span_is h').1
 rcases Int.lt_or_eq_of_le h1.1 with hp|he
 ·exact hp
 ·have:=h1.2.1
  rw[←he]at this
  omega
def lineE(a b p:Pt):Int:=if(ptOK a&&ptOK b&&ptOK p)=false then 2 else if eqP a b=true then 11 else 0
theorem qpy(a b p:Pt):Contract Tryz.prog 307 [.agg (encPt a),.agg (encPt b),.agg (encPt p)] (.ret (.int .i64 (lineE a b p))):=by
 have h1:=qlj a b p
 cases hok:ptOK a&&ptOK b&&ptOK p
 ·rw[hok]at h1
  have e:lineE a b p=2:=if_pos hok
  rw[e]
  refine zT mix Tryz.func307 Tryz.ntmps307 Tryz.results307 rfl rfl rfl ?_;simp only[qab,Nat.reduceAdd]
  repeat'(first|((with_reducible apply qae);(exact qbT rfl (by simp) rfl);(exact h1);rfl)|(with_reducible rfl)|refine zQ ?_|refine zE ?_|fail)
  all_goals rfl
 ·rw[hok]at h1
  have e:lineE a b p=if eqP a b=true then 11 else 0:=if_neg (by rw[hok];simp)
  rw[e]
  refine zT mix Tryz.func307 Tryz.ntmps307 Tryz.results307 rfl rfl rfl ?_;simp only[qab,Nat.reduceAdd]
  repeat'(first|((with_reducible apply qae);(exact qbT rfl (by simp) rfl);(exact h1);rfl)|refine zQ ?_|(refine zC ?_ ?_<;>first|intro h|simp)|refine zE ?_|fail)
  ·rw[if_pos (show eqP a b=true by assumption)]
  ·rw[if_neg (by rw[show eqP a b=false by assumption];simp)]
noncomputable def offE(a b p:Pt):Int:=qzI (crossE a b p)/spanE (sqE a b)
noncomputable def alongE(a b p:Pt):Int:=qqD a b p/spanE (sqE a b)
theorem qE0(n:Int):max n (0-n)=qzI n:=by unfold qzI;split<;>omega
theorem absE_nn(n:Int):0≤qzI n:=by unfold qzI;split<;>omega
theorem absE_le{n B:Int}(h: -B≤n∧n≤B):qzI n≤B:=by unfold qzI;split<;>omega
theorem qzJ(a b p:Pt)(ha:ptOK a=true)(hb:ptOK b=true)(hp:ptOK p=true)(hne:eqP a b=false):Contract Tryz.prog 310 [.agg (encPt a),.agg (encPt b),.agg (encPt p)] (.ret (.int .i64 (offE a b p))):=by
 have hx:=qji a b p ha hb hp
 have hs:=qw6 a b ha hb
 have h1:=crossE_bd ha hb hp
 have h2:=qkh (qsA hne) (sqE_bd ha hb).2
 have h3:=(span_is (sqE_bd ha hb).2).2
 unfold offE
 rw[←qE0]
 refine zT mix Tryz.func310 Tryz.ntmps310 Tryz.results310 rfl rfl rfl ?_;simp only[qab,Nat.reduceAdd]
 repeat'(first|(with_reducible rfl)|refine zQ ?_|refine zF hx ?_|refine zF hs ?_|refine zE ?_|fail)
 all_goals trace_state
theorem qHU(n m:Int)(hm:0<m)(hm':m≤1000000000000)(hn: -1000000000000000≤n∧n≤1000000000000000):Contract Tryz.prog 154 [.int .i64 n,.int .i64 m] (.ret (.int .i64 (n%m))):=by
 have e1:=Int.emod_nonneg n (show m≠0 by omega)
 have e2:=Int.emod_lt_of_pos n hm
 have e3:n.tmod m=if 0≤n∨m∣n then n%m else n%m-m:=by
  rw[Int.tmod_eq_emod]
  split<;>rename_i h
  ·omega
  ·rw[Int.natAbs_of_nonneg (by omega)]
 refine zT mix Tryz.func154 Tryz.ntmps154 Tryz.results154 rfl rfl rfl ?_;simp only[qab,Nat.reduceAdd]
 repeat'(first|refine zQ ?_|(refine zC ?_ ?_<;>first|intro h|simp)|refine zE ?_|fail)
 ·split at e3<;>omega
 ·split at e3<;>omega
theorem qw7{d s:Int}(hs:0<s):(d.tdiv s*s>d→d.tdiv s-1=d/s)∧(¬d.tdiv s*s>d→d.tdiv s=d/s):=by
 have e:=Int.tdiv_eq_ediv (a:=d) (b:=s)
 rw[Int.sign_eq_one_of_pos hs]at e
 have e1:=Int.mul_ediv_add_emod d s
 have e2:=Int.emod_nonneg d (show s≠0 by omega)
 have e3:=Int.emod_lt_of_pos d hs
 rw[Int.mul_comm]at e1
 generalize hq:d/s=q at*
 split at e
 ·rename_i h
  have e4:d.tdiv s=q:=by omega
  rw[e4]
  exact⟨fun h=>by omega,fun _=>rfl⟩
 ·rename_i h
  have e4:d.tdiv s=q+1:=by omega
  rw[e4,Int.add_mul,Int.one_mul]
  have hz:d%s≠0:=fun hz=>h (.inr (Int.dvd_of_emod_eq_zero hz))
  exact⟨fun _=>by omega,fun h=>by omega⟩
theorem qCJ{d s B:Int}(hs:0<s)(h: -B≤d∧d≤B): -B-1≤d.tdiv s∧d.tdiv s≤B+1∧ -B≤d.tdiv s*s∧d.tdiv s*s≤B:=by
 have hd:(d.tdiv s).natAbs≤d.natAbs:=Int.natAbs_tdiv_le_natAbs d s
 have hm:(d.tdiv s*s).natAbs≤d.natAbs:=by
  rw[Int.natAbs_mul,Int.natAbs_tdiv]
  exact Nat.div_mul_le_self _ _
 omega
noncomputable def offX(a b p:Pt):Int:=if lineE a b p=0 then offE a b p else 0
noncomputable def alongX(a b p:Pt):Int:=if lineE a b p=0 then alongE a b p else 0
theorem qnH{a b p:Pt}(h:lineE a b p=0):ptOK a=true∧ptOK b=true∧ptOK p=true∧eqP a b=false:=by
 unfold lineE at h
 (repeat' split at h)<;>first|(cases h;done)|skip
 rename_i h1 h2
 obtain⟨x,y,z⟩:=ok3 ((Bool.eq_false_or_eq_true _).resolve_right h1)
 exact⟨x,y,z,by simpa using h2⟩
theorem c_Offset(a b p:Pt):Contract Tryz.prog 292 [.agg (encPt a),.agg (encPt b),.agg (encPt p)] (.ret (.tup [.int .i64 (offX a b p),.int .i64 (lineE a b p)])):=by
 have hl:=qpy a b p
 unfold offX
 by_cases hz:lineE a b p=0
 ·obtain⟨ha,hb,hp,hne⟩:=qnH hz
  have ho:=qzJ a b p ha hb hp hne
  rw[if_pos hz]
  rw[hz]at hl ⊢
  refine zT mix Tryz.func292 Tryz.ntmps292 Tryz.results292 rfl rfl rfl ?_;simp only[qab,Nat.reduceAdd]
  repeat'(first|refine zQ ?_|refine zF hl ?_|refine zF ho ?_|refine zE ?_|fail)
  all_goals first|rfl|(exfalso;omega)
 ·rw[if_neg hz]
  refine zT mix Tryz.func292 Tryz.ntmps292 Tryz.results292 rfl rfl rfl ?_;simp only[qab,Nat.reduceAdd]
  repeat'(first|refine zQ ?_|refine zF hl ?_|(refine zC ?_ ?_<;>first|intro h|simp)|refine zE ?_|fail)
  all_goals first|rfl|(exfalso;omega)
theorem c_Along(a b p:Pt):Contract Tryz.prog 289 [.agg (encPt a),.agg (encPt b),.agg (encPt p)] (.ret (.tup [.int .i64 (alongX a b p),.int .i64 (lineE a b p)])):=by
 have hl:=qpy a b p
 unfold alongX
 by_cases hz:lineE a b p=0
 ·obtain⟨ha,hb,hp,hne⟩:=qnH hz
  have hx:=qEX a b p ha hb hp
  have hs:=qw6 a b ha hb
  have h1:=qw1 ha hb hp
  have h2:=qkh (qsA hne) (sqE_bd ha hb).2
  have h3:=(span_is (sqE_bd ha hb).2).2
  have ht:=qCJ h2 h1
  have hlem:=qw7 (d:=qqD a b p) h2
  rw[if_pos hz]
  rw[hz]at hl ⊢
  unfold alongE
  refine zT mix Tryz.func289 Tryz.ntmps289 Tryz.results289 rfl rfl rfl ?_;simp only[qab,Nat.reduceAdd]
  repeat'(first|refine zQ ?_|refine zF hl ?_|refine zF hx ?_|refine zF hs ?_|(refine zC ?_ ?_<;>first|intro h|simp)|refine zE ?_|fail)
  all_goals first
   |(exfalso;omega)
   |(rw[hlem.1 (by assumption)];rfl)
   |(rw[←hlem.1 (by omega)];rfl)
   |(rw[←hlem.2 (by assumption)];rfl)
   |trace_state
 ·rw[if_neg hz]
  refine zT mix Tryz.func289 Tryz.ntmps289 Tryz.results289 rfl rfl rfl ?_;simp only[qab,Nat.reduceAdd]
  repeat'(first|refine zQ ?_|refine zF hl ?_|(refine zC ?_ ?_<;>first|intro h|simp)|refine zE ?_|fail)
  all_goals first|rfl|(exfalso;omega)
end Go.Pv.Geo

import Derived.Test.YtfklpkgdobdbpaaGreatCBU
/- Part of the proofs over YtfklpkgdobdbpaaGreat: N54. -/
set_option linter.unusedVariables false
set_option linter.unusedSimpArgs false
set_option linter.unnecessarySimpa false
open Go Go.Proofs Go.Pv
set_option maxHeartbeats 8000000
set_option maxRecDepth 100000
set_option linter.unusedSimpArgs false
set_option linter.unusedVariables false
namespace Go.Pv.Soil
open Go.Pv.Ord
theorem qnw{n:Nat}{R p:Nat→Nat→Int}{c:Int}(h:qdd n R p n 0=some c):∀i,i≤n→(qbd n R p n 0).length=n∧(∃ci,qdd n R p (n-i) (qph ((qbd n R p n 0).take i))=some ci)∧qbd n R p (n-i) (qph ((qbd n R p n 0).take i))=(qbd n R p n 0).drop i∧qph ((qbd n R p n 0).take i)<2^n∧cz n (qph ((qbd n R p n 0).take i))=n-i
 |0,_=>by
  obtain⟨⟨l1,l2,e,_,_⟩,_⟩:=(qe3 n 0).2 c h
  have hm:qbd n R p n 0∈ordL n R n 0:=by rw[e];simp
  exact⟨(qBC hm).2,⟨c,h⟩,rfl,Nat.two_pow_pos n,qqq⟩
 |i+1,hi=>by
  obtain⟨hl,⟨ci,h1⟩,h2,h3,h4⟩:=qnw h i (by omega)
  obtain⟨m,hm⟩:∃m,n-i=m+1:=⟨n-i-1,by omega⟩
  have hm':n-(i+1)=m:=by omega
  rw[hm]at h1 h2 h4
  rw[hm']
  obtain⟨k,hk,hn,hv,hf,hp,hs⟩:=qpj h1
  rw[hp]at h2
  have hil:i<(qbd n R p n 0).length:=by omega
  rw[List.drop_eq_getElem_cons hil]at h2
  injection h2 with e1 e2
  have et:(qbd n R p n 0).take (i+1)=(qbd n R p n 0).take i++[k]:=by rw[List.take_succ_eq_append_getElem hil,←e1]
  rw[et,qpi]
  obtain⟨cj,hcj⟩:=Option.isSome_iff_exists.1 hs
  refine⟨hl,⟨cj,hcj⟩,e2,qtw h3 hk,?_⟩
  have:=qyM (nx_bit hn) hk
  omega
theorem qwX{n:Nat}{R p:Nat→Nat→Int}{c:Int}(h:qdd n R p n 0=some c){i m:Nat}(hm:n-i=m+1):∃ci,qdd n R p (m+1) (qph ((qbd n R p n 0).take i))=some ci∧∃(hil:i<(qbd n R p n 0).length),(qbd n R p n 0)[i]<n∧nx R (qph ((qbd n R p n 0).take i)) (qbd n R p n 0)[i]=true∧qho n R p m (qph ((qbd n R p n 0).take i)) (qbd n R p n 0)[i]=some ci∧∀j,j<(qbd n R p n 0)[i]→qho n R p m (qph ((qbd n R p n 0).take i)) j≠some ci:=by
 obtain⟨hl,⟨ci,h1⟩,h2,h3,h4⟩:=qnw h i (by omega)
 rw[hm]at h1 h2 h4
 obtain⟨k,hk,hn,hv,hf,hp,hs⟩:=qpj h1
 rw[hp]at h2
 have hil:i<(qbd n R p n 0).length:=by omega
 rw[List.drop_eq_getElem_cons hil]at h2
 injection h2 with e1 e2
 refine⟨ci,h1,hil,?_⟩
 rw[←e1]
 exact⟨hk,hn,hv,hf⟩
def qid(n:Nat)(T p:Nat→Nat→Int):List Nat×Int×Bool:=match qdd n T p n 0 with
 |none=>([],0,false)
 |some c=>(qbd n T p n 0,c,true)
theorem qBG{P:Program}{env:Env}{hp:Hp}{nx n:Nat}{rv rv2 rv3:ResultVar}{b k len:Nat}{rows:List (List D)}{d2 d3:D}(h:qb6 P ⟨env,hp,nx,n⟩ rv=some (.os b 0 len))(hb:lkH hp b=some ⟨k,true,rows⟩)(hlen:rows.length=len)(h2:qb6 P ⟨env,hp,nx,n⟩ rv2=some d2)(h3:qb6 P ⟨env,hp,nx,n⟩ rv3=some d3)(s2:qaU d2=true)(s3:qaU d3=true):qg0 P [rv,rv2,rv3] (.ret (.tup [.fr k rows,d2,d3])) .ret ⟨env,hp,nx,n⟩:=by
 subst hlen
 exact⟨_,rfl,.inl ⟨[.blk b,.pure,.pure],[.os b 0 rows.length,d2,d3],[.fr k rows,d2,d3],by simp[h,h2,h3],by simp[qbq],⟨⟨⟨k,true,rows⟩,rows,rfl,hb,rfl,by simp⟩,qc5 (m:=63) s2,qc5 (m:=63) s3,trivial⟩,rfl,fun h=>by simp at h⟩⟩
theorem qBH{P:Program}{env:Env}{hp:Hp}{nx n:Nat}{rv rv2 rv3:ResultVar}{k:Nat}{d2 d3:D}(h:qb6 P ⟨env,hp,nx,n⟩ rv=some .nilsl)(h2:qb6 P ⟨env,hp,nx,n⟩ rv2=some d2)(h3:qb6 P ⟨env,hp,nx,n⟩ rv3=some d3)(s2:qaU d2=true)(s3:qaU d3=true):qg0 P [rv,rv2,rv3] (.ret (.tup [.fr k [],d2,d3])) .ret ⟨env,hp,nx,n⟩:=
 ⟨_,rfl,.inl ⟨[.nil,.pure,.pure],[.nilsl,d2,d3],[.fr k [],d2,d3],by simp[h,h2,h3],by simp[qbq],⟨⟨rfl,k,rfl⟩,qc5 (m:=63) s2,qc5 (m:=63) s3,trivial⟩,rfl,fun h=>by simp at h⟩⟩
mutual
theorem qpl{b:Nat}:∀{d:D},qc0 d=true→qd7 b d=false
 |.agg cs,h=>by simp only[qd7];exact qeb (by simpa[qc0]using h)
 |.tup cs,h=>by simp only[qd7];exact qeb (by simpa[qc0]using h)
 |.clo f xs ys,h=>by
  simp only[qc0,Bool.and_eq_true]at h
  simp only[qd7,qeb h.1,qeb h.2,Bool.or_self]
 |.iface t d,h=>by simp only[qd7];exact qpl (by simpa[qc0]using h)
 |.os _ _ _,h=>by simp[qc0]at h
 |.op _ _ _,h=>by simp[qc0]at h
 |.om _,h=>by simp[qc0]at h
 |.undef,_|.skip,_|.int _ _,_|.bool _,_|.str _,_|.float _ _,_|.sl _,_|.ptr _,_|.nilsl,_|.nilptr,_|.nilfunc,_|.nilif,_|.fr _ _,_=>rfl
theorem qeb{b:Nat}:∀{ds:List D},qbF ds=true→qio b ds=false
 |[],_=>rfl
 |d::ds,h=>by
  simp only[qbF,Bool.and_eq_true]at h
  simp only[qio,qpl h.1,qeb h.2,Bool.or_self]
end
theorem qDx{b:Nat}{f:Fn}{ys:List D}(h:qbF ys=true):pd b (.clo f [] ys)=.clo f [] ys:=by
 unfold pd
 rw[if_neg]
 simp[qd7,qio,qeb h]
def beA(n:Nat)(rl pl:List (List Int))(g:FuncId)(L:List (Option Int))(i set:Nat)(path:List Nat)(z:List D):St:=⟨[(9,.os 1 0 i),(10,.int .i64 set),(8,.sl (L.map qic)),(7,.sl (L.map qnv)),(0,.ptr [.int .i64 n,.sl (rl.map qaV),.sl (pl.map qaV)]),(1,.clo (.func g) [] z)],[(1,⟨1,true,path.map qcX⟩)],96,78⟩
def beB(n:Nat)(rl pl:List (List Int))(g:FuncId)(L:List (Option Int))(i set k:Nat)(path:List Nat)(z:List D):St:=⟨[(30,.int .i64 k),(29,.int .i64 n),(9,.os 1 0 i),(10,.int .i64 set),(8,.sl (L.map qic)),(7,.sl (L.map qnv)),(0,.ptr [.int .i64 n,.sl (rl.map qaV),.sl (pl.map qaV)]),(1,.clo (.func g) [] z)],[(1,⟨1,true,path.map qcX⟩)],96,78⟩
theorem qDy(n:Nat)(hn:n≤8)(T p:Nat→Nat→Int)(pl:List (List Int))(g:FuncId)(ys:List D)(hst:qlk ys)(hpu:qbF ys=true)(hg:∀set k:Nat,set<2^n→k<n→Contract Tryz.prog g (.int .i64 set:: .int .i64 k::ys) (.ret (.int .i64 (p set k))))
  (hB:∀s k,k<n→nx T s k=true→0≤p s k∧p s k≤1000000000000000):
  Contract Tryz.prog 115 [qiS n (qbm n T (2^n)) pl,.clo (.func g) [] ys] (.ret (.tup [.fr 1 ((qid n T p).1.map qcX),.int .i64 (qid n T p).2.1,.bool (qid n T p).2.2])):=by
 have hp8:=qB3 hn
 have h1:=qBD n hn (qbm n T (2^n)) pl
 have h2:=fun(set k:Nat) hs hk=>qwS n hn T pl set k hs hk
 have h3:=qBF n hn T p pl g ys hst hpu hg hB
 have hz:∀σ,qgI σ ys=ys:=fun σ=>qbr hpu
 unfold qiS at*
 obtain⟨N,hN⟩:∃N,N=2^n:=⟨_,rfl⟩
 simp only[←hN]at h1 h2 h3 hg hp8 ⊢
 have htl:(qgA n T p 0).length=N:=by rw[hN];exact qeN
 have hget:∀s (hs:s<(qgA n T p 0).length),(qgA n T p 0)[s]=qdd n T p (cz n s) s:=fun s hs=>by
  rw[qiR (by omega),if_pos (Nat.zero_le _)]
 have hg0:(qgA n T p 0)[0]'(by omega)=qdd n T p n 0:=by rw[hget,qqq]
 cases hpn:qdd n T p n 0 with
 |none=>
  rw[hpn]at hg0
  unfold qid
  rw[hpn]
  refine zT mix Tryz.func115 Tryz.ntmps115 Tryz.results115 rfl rfl rfl ?_;simp only[qac,Nat.reduceAdd]
  repeat'(first|refine zQ ?_|fail)
  refine qmX (args':=[.ptr [.int .i64 n,.sl ((qbm n T N).map qaV),.sl (pl.map qaV)],.clo (.func g) [] ys]) ?_ ?_ h3 rfl (zL rfl) rfl ?_
  ·simp[qbF,qc0,qab,lkE,hpu]
  ·have e:=hst (lkH []) 45
   simp only[List.map_cons,List.map_nil,qab,lkE,qbQ,pur,Option.bind_some,Option.map_some,Nat.reduceEqDiff,if_true,if_false,e]
  repeat'(first|refine zQ ?_|(refine zI ?_;intro hlt)|(refine zC ?_ ?_<;>first|intro h|simp)|fail)
  all_goals first
   |exact qBH (k:=1) rfl rfl rfl rfl rfl
   |(exfalso;simp[hg0]at *;done)
   |trace_state
 |some c=>
  rw[hpn]at hg0
  have hb1:(qid n T p).1=qbd n T p n 0:=by unfold qid;rw[hpn]
  have hb2:(qid n T p).2.1=c:=by unfold qid;rw[hpn]
  have hb3:(qid n T p).2.2=true:=by unfold qid;rw[hpn]
  rw[hb1,hb2,hb3]
  refine zT mix Tryz.func115 Tryz.ntmps115 Tryz.results115 rfl rfl rfl ?_;simp only[qac,Nat.reduceAdd]
  repeat'(first|refine zQ ?_|fail)
  refine qmX (args':=[.ptr [.int .i64 n,.sl ((qbm n T N).map qaV),.sl (pl.map qaV)],.clo (.func g) [] ys]) ?_ ?_ h3 rfl (zL rfl) rfl ?_
  ·simp[qbF,qc0,qab,lkE,hpu]
  ·have e:=hst (lkH []) 45
   simp only[List.map_cons,List.map_nil,qab,lkE,qbQ,pur,Option.bind_some,Option.map_some,Nat.reduceEqDiff,if_true,if_false,e]
  repeat'(first|refine zQ ?_|(refine zI ?_;intro hlt)|(refine zC ?_ ?_<;>first|intro h|simp)|fail)
  all_goals try(exfalso;simp[hg0]at *;done)
  refine qaf n (fun i=>beA n (qbm n T N) pl g (qgA n T p 0) i (qph ((qbd n T p n 0).take i)) ((qbd n T p n 0).take i) ys) (fun _=>True) ?_ trivial ?_
  ·exact qaa (nx:=96) (k:=1) (ns:=[(9,1)]) (ks:=[10,8,7,0,1]) [] rfl (by simp;rfl) (Eq.trans (b:=beA n (qbm n T N) pl g (qgA n T p 0) 0 (qph ((qbd n T p n 0).take 0)) ((qbd n T p n 0).take 0) (qgI [] ys)) (by kernel_rfl) (by rw[hz]))
  intro i hi _
  obtain⟨hlen,-,-,hS,hcz⟩:=qnw hpn i hi
  by_cases hL:i<n
  rotate_left
  ·obtain rfl:i=n:=by omega
   have hSf:=qmk hS (by omega)
   rw[hSf,←hN]
   unfold beA
   have e9:(qbd i T p i 0).take i=qbd i T p i 0:=List.take_of_length_le (by omega)
   rw[e9]
   have hgc:((qgA i T p 0)[0]'(by omega)).getD 0=c:=by rw[hg0];rfl
   repeat'(first|refine zQ ?_|refine zF h1 ?_|(refine zI ?_;intro hlt)|(refine zC ?_ ?_<;>first|intro h|simp)|fail)
   all_goals first
    |exact qBG rfl rfl (by simpa using hlen) (congrArg (fun z=>some (D.int .i64 z)) hgc) rfl rfl rfl
    |(exfalso;omega)
    |trace_state
  obtain⟨m,hm⟩:∃m,n-i=m+1:=⟨n-i-1,by omega⟩
  obtain⟨ci,hci,hil,hK0,hn0,hv0,hmin⟩:=qwX hpn hm
  have hnN:qph ((qbd n T p n 0).take i)≠2^n-1:=fun e=>by
   have:=qns (n:=n) (m:=n) (Nat.le_refl n)
   rw[←e]at this
   omega
  rw[←hN]at hS hnN
  have hsn:qph ((qbd n T p n 0).take (i+1))=qph ((qbd n T p n 0).take i)|||2^(qbd n T p n 0)[i]:=by rw[List.take_succ_eq_append_getElem hil,qpi]
  have hpt:(qbd n T p n 0).take (i+1)=(qbd n T p n 0).take i++[(qbd n T p n 0)[i]]:=List.take_succ_eq_append_getElem hil
  rw[hsn,hpt]
  generalize (qbd n T p n 0)[i]=K0 at*
  have htk:((qbd n T p n 0).take i).length=i:=by rw[List.length_take];omega
  generalize (qbd n T p n 0).take i=P0 at*
  generalize hSS:qph P0=S0 at*
  unfold beA
  repeat'(first|((with_reducible apply qao);rfl;rfl)|refine zS ?_|refine zA ?_|refine zF h1 ?_|(refine zI ?_;intro hlt)|(refine zC ?_ ?_<;>first|intro h|simp)|fail)
  all_goals try(exfalso;omega)
  have hent:∀k,(beB n (qbm n T N) pl g (qgA n T p 0) i S0 k P0 (qgI [(1,1)] ys))=beB n (qbm n T N) pl g (qgA n T p 0) i S0 k P0 ys:=fun k=>by rw[hz]
  have hent2:(beA n (qbm n T N) pl g (qgA n T p 0) (i+1) (S0|||2^K0) (P0++[K0]) (qgI [(1,1)] ys))=beA n (qbm n T N) pl g (qgA n T p 0) (i+1) (S0|||2^K0) (P0++[K0]) ys:=by rw[hz]
  have fS:(qgA n T p 0)[S0]'(by omega)=some ci:=by rw[hget,hcz,hm];exact hci
  have fSc:((qgA n T p 0)[S0]'(by omega)).getD 0=ci:=by rw[fS];rfl
  refine qaf n (fun k=>beB n (qbm n T N) pl g (qgA n T p 0) i S0 k P0 ys) (fun k=>k≤K0) ?_ (Nat.zero_le _) ?_
  ·exact qaa (nx:=96) (k:=0) (ns:=[]) (ks:=[30,29,9,10,8,7,0,1]) [(1,1)] rfl (by simp) (Eq.trans (by kernel_rfl) (hent 0))
  intro k hk hkK
  have hK:k<n:=by omega
  have c2:=h2 S0 k hS hK
  have hpk:2^k<N:=by have:=Nat.pow_lt_pow_right (a:=2) (by omega) hK;omega
  unfold beB
  cases hx:nx T S0 k with
  |false=>
   rw[hx]at c2
   have hne:k≠K0:=fun e=>by rw[e,hn0]at hx;cases hx
   repeat'(first|refine zQ ?_|refine zF c2 ?_|(refine zC ?_ ?_<;>first|intro h|simp)|fail)
   all_goals try(exfalso;omega)
   exact⟨hK,by omega,qaa (nx:=96) (k:=0) (ns:=[]) (ks:=[30,29,9,10,8,7,0,1]) [(1,1)] rfl (by simp) (Eq.trans (by kernel_rfl) (hent (k+1)))⟩
  |true=>
   rw[hx]at c2
   have hb:=nx_bit hx
   have hor:S0|||2^k<N:=by rw[hN];exact qtw (by omega) hK
   have hczk:cz n (S0|||2^k)=m:=by have:=qyM hb hK;omega
   have f1:(qgA n T p 0)[S0|||2^k]'(by omega)=qdd n T p m (S0|||2^k):=by rw[hget,hczk]
   have hgk:=hg S0 k hS hK
   have hBk:=hB S0 k hK hx
   cases hq:qdd n T p m (S0|||2^k)with
   |none=>
    rw[hq]at f1
    have hne:k≠K0:=fun e=>by
     rw[←e]at hv0
     unfold qho at hv0
     rw[if_pos hx,hq]at hv0
     cases hv0
    repeat'(first|((with_reducible apply qdP);rfl;rfl;rfl;omega)|((with_reducible apply qmZ);rfl;rfl;rfl;(exact⟨by omega,by omega⟩))|((with_reducible apply qdo);rfl;rfl;rfl;(exact hst);(exact hgk);rfl)|refine zS ?_|refine zA ?_|refine zF c2 ?_|(refine zI ?_;intro hlt)|(refine zC ?_ ?_<;>first|intro h|simp)|(refine zG ?_ ?_<;>first|intro h|simp)|((with_reducible apply qaG);rfl;rfl)|fail)
    all_goals first
     |(exfalso;omega)
     |(exfalso;simp[f1]at *;done)
     |exact⟨hK,by omega,qaa (nx:=96) (k:=0) (ns:=[]) (ks:=[30,29,9,10,8,7,0,1]) [(1,1)] rfl (by simp) (Eq.trans (by kernel_rfl) (hent (k+1)))⟩
     |trace_state
   |some q=>
    rw[hq]at f1
    have f3:((qgA n T p 0)[S0|||2^k]'(by omega)).getD 0=q:=by rw[f1];rfl
    have hv:qho n T p m S0 k=some (p S0 k+q):=by unfold qho;rw[if_pos hx,hq];rfl
    have hqb:=qwU hB hq
    have hqb2:((m:Nat):Int)*1000000000000000≤8*1000000000000000:=by omega
    by_cases hkk:k=K0
    ·subst hkk
     rw[hv]at hv0
     injection hv0 with hv0
     repeat'(first|((with_reducible apply qdP);rfl;rfl;rfl;omega)|((with_reducible apply qmZ);rfl;rfl;rfl;(exact⟨by omega,by omega⟩))|((with_reducible apply qdo);rfl;rfl;rfl;(exact hst);(exact hgk);rfl)|refine zS ?_|refine zA ?_|refine zF c2 ?_|(refine zI ?_;intro hlt)|(refine zC ?_ ?_<;>first|intro h|simp)|(refine zG ?_ ?_<;>first|intro h|simp)|fail)
     all_goals try(exfalso;omega)
     all_goals try(exfalso;simp[f1]at *;done)
     refine qaE (f:=qcX) (a:=k) (l:=P0) qp5 rfl rfl rfl htk rfl rfl (by kernel_rfl) (by kernel_rfl) (by omega) rfl ?_
     simp only[qft,List.map_cons,List.map_nil,qDx hpu]
     repeat'(first|((with_reducible apply qdP);rfl;rfl;rfl;omega)|((with_reducible apply qmZ);rfl;rfl;rfl;(exact⟨by omega,by omega⟩))|refine zS ?_|refine zA ?_|fail)
     exact⟨hL,trivial,qaa (nx:=96) (k:=0) (ns:=[]) (ks:=[9,10,8,7,0,1]) [(1,1)] rfl (by simp) (Eq.trans (by kernel_rfl) hent2)⟩
    ·have hne:p S0 k+q≠ci:=fun e=>hmin k (by omega) (by rw[hv,e])
     repeat'(first|((with_reducible apply qdP);rfl;rfl;rfl;omega)|((with_reducible apply qmZ);rfl;rfl;rfl;(exact⟨by omega,by omega⟩))|((with_reducible apply qdo);rfl;rfl;rfl;(exact hst);(exact hgk);rfl)|refine zS ?_|refine zA ?_|refine zF c2 ?_|(refine zI ?_;intro hlt)|(refine zC ?_ ?_<;>first|intro h|simp)|(refine zG ?_ ?_<;>first|intro h|simp)|fail)
     all_goals first
      |(exfalso;omega)
      |(exfalso;simp[f1]at *;done)
      |exact⟨hK,by omega,qaa (nx:=96) (k:=0) (ns:=[]) (ks:=[30,29,9,10,8,7,0,1]) [(1,1)] rfl (by simp) (Eq.trans (by kernel_rfl) (hent (k+1)))⟩
      |trace_state
end Go.Pv.Soil

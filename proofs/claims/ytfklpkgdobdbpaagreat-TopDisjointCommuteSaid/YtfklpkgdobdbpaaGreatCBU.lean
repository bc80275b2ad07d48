import Derived.Test.YtfklpkgdobdbpaaGreatCBR
/- Part of the proofs over YtfklpkgdobdbpaaGreat: N53. -/
set_option linter.unusedVariables false
set_option linter.unusedSimpArgs false
set_option linter.unnecessarySimpa false
open Go Go.Proofs Go.Pv
set_option maxHeartbeats 8000000
set_option maxRecDepth 100000
set_option linter.unusedSimpArgs false
set_option linter.unusedVariables false
namespace Go.Pv.Soil
open Go.Pv.Ord
def qnv(o:Option Int):List D:=[.int .i64 (o.getD 0)]
def qic(o:Option Int):List D:=[.bool o.isSome]
theorem qwT{n:Nat}{R p:Nat→Nat→Int}{B:Int}(hB:∀s k,k<n→nx R s k=true→0≤p s k∧p s k≤B):∀(m s:Nat) (o:List Nat),o∈ordL n R m s→0≤qld p s o∧qld p s o≤m*B
 |0,s,o,h=>by
  simp only[ordL,List.mem_singleton]at h
  subst h
  simp[qld]
 |m+1,s,o,h=>by
  obtain⟨k,hk,h⟩:=List.mem_flatMap.1 h
  split at h
  ·rename_i hn
   obtain⟨r,hr,rfl⟩:=List.mem_map.1 h
   have h1:=qwT hB m _ r hr
   have h2:=hB s k (List.mem_range.1 hk) hn
   simp only[qld,Int.natCast_add,Int.natCast_one,Int.add_mul,Int.one_mul]
   omega
  ·cases h
theorem qwU{n:Nat}{R p:Nat→Nat→Int}{B:Int}(hB:∀s k,k<n→nx R s k=true→0≤p s k∧p s k≤B){m s:Nat}{q:Int}(h:qdd n R p m s=some q):0≤q∧q≤m*B:=by
 obtain⟨⟨l1,l2,e,_,_⟩,e2⟩:=(qe3 m s).2 q h
 have hm:qbd n R p m s∈ordL n R m s:=by rw[e];simp
 have h1:=qwT hB m s _ hm
 rw[e2]at h1
 exact h1
theorem qwV{n:Nat}{T p:Nat→Nat→Int}:List.replicate (2^n) [D.int .i64 0]=(qgA n T p (2^n-1)).map qnv:=by
 apply List.ext_getElem
 ·simp[qeN]
 ·intro i h1 h2
  have hi:i<2^n:=by simpa using h1
  rw[List.getElem_replicate,List.getElem_map,qiR hi]
  split
  ·have:i=2^n-1:=by omega
   subst this
   rw[qns (Nat.le_refl n)]
   rfl
  ·rfl
theorem qwW{n:Nat}{T p:Nat→Nat→Int}:((List.replicate (2^n) (none:Option Int)).set (2^n-1) (some 0)).map qic=(qgA n T p (2^n-1)).map qic:=by
 apply List.ext_getElem
 ·simp[qeN]
 ·intro i h1 h2
  have hi:i<2^n:=by simpa using h1
  rw[List.getElem_map,List.getElem_map,qiR hi,List.getElem_set]
  split
  ·rename_i e
   subst e
   rw[if_pos (Nat.le_refl _),qns (Nat.le_refl n)]
   rfl
  ·rename_i e
   rw[if_neg (by omega),List.getElem_replicate]
theorem qF2{n s:Nat}:cz n s≤n:=by
 induction n with
 |zero=>exact Nat.le_refl _
 |succ n ih=>simp only[cz];split<;>omega
def plA(n N:Nat)(rl pl:List (List Int))(g:FuncId)(a:Int)(L:List (Option Int))(z:List D):St:=⟨[(6,.int .i64 a),(5,.os 2 0 N),(4,.os 1 0 N),(0,.ptr [.int .i64 n,.sl (rl.map qaV),.sl (pl.map qaV)]),(1,.clo (.func g) [] z)],[(1,⟨1,true,L.map qnv⟩),(2,⟨1,true,L.map qic⟩)],96,85⟩
def plB(n N:Nat)(rl pl:List (List Int))(g:FuncId)(k t:Nat)(L:List (Option Int))(z:List D):St:=⟨[(32,.int .i64 k),(31,.int .i64 n),(6,.int .i64 t),(5,.os 2 0 N),(4,.os 1 0 N),(0,.ptr [.int .i64 n,.sl (rl.map qaV),.sl (pl.map qaV)]),(1,.clo (.func g) [] z)],[(1,⟨1,true,L.map qnv⟩),(2,⟨1,true,L.map qic⟩)],96,85⟩
theorem qBF(n:Nat)(hn:n≤8)(T p:Nat→Nat→Int)(pl:List (List Int))(g:FuncId)(ys:List D)(hst:qlk ys)(hpu:qbF ys=true)(hg:∀set k:Nat,set<2^n→k<n→Contract Tryz.prog g (.int .i64 set:: .int .i64 k::ys) (.ret (.int .i64 (p set k))))
  (hB:∀s k,k<n→nx T s k=true→0≤p s k∧p s k≤1000000000000000):
  Contract Tryz.prog 189 [qiS n (qbm n T (2^n)) pl,.clo (.func g) [] ys] (.ret (.tup [.sl ((qgA n T p 0).map qnv),.sl ((qgA n T p 0).map qic)])):=by
 have hp8:=qB3 hn
 have h1:=qBD n hn (qbm n T (2^n)) pl
 have h2:=fun(set k:Nat) hs hk=>qwS n hn T pl set k hs hk
 have ht1:=qwV (n:=n) (T:=T) (p:=p)
 have ht2:=qwW (n:=n) (T:=T) (p:=p)
 unfold qiS at*
 obtain⟨N,hN⟩:∃N,N=2^n:=⟨_,rfl⟩
 simp only[←hN]at h1 h2 ht1 ht2 hg hp8 ⊢
 generalize qbm n T N=rl at*
 refine zT mix Tryz.func189 Tryz.ntmps189 Tryz.results189 rfl rfl rfl ?_;simp only[qac,Nat.reduceAdd]
 repeat'(first|refine zQ ?_|refine zF h1 ?_|fail)
 have eN:D.int .i64 ((N:Int)-1+1)=D.int .i64 (N:Int):=by rw[Int.sub_add_cancel]
 refine qfj (len:=N) (z:=.int .i64 0) eN eN (by kernel_rfl) rfl rfl (by kernel_rfl) (by omega) rfl ?_
 rw[show List.replicate N (qah (D.int .i64 0))=(qgA n T p (N-1)).map qnv from ht1]
 repeat'(first|refine zA ?_|refine zF h1 ?_|fail)
 refine qfj (len:=N) (z:=.bool false) eN eN (by kernel_rfl) rfl rfl (by kernel_rfl) (by omega) rfl ?_
 rw[show List.replicate N (qah (D.bool false))=(List.replicate N (none:Option Int)).map qic by simp[qic,qah]]
 repeat'(first|refine zQ ?_|refine zF h1 ?_|fail)
 refine qg3 (i:=N-1) rfl rfl rfl (show((N:Int)-1)=((N-1:Nat):Int)by omega) rfl rfl ⟨by omega,by simp⟩ fun hlt=>?_
 repeat'(first|refine zA ?_|fail)
 refine qaA (f:=qic) (l:=List.replicate N none) (a:=some 0) rfl rfl rfl (by simp;omega) rfl rfl rfl rfl (Nat.le_refl _) rfl ?_
 rw[show((List.replicate N (none:Option Int)).set (N-1) (some 0)).map qic=(qgA n T p (N-1)).map qic from ht2]
 repeat'(first|refine zQ ?_|refine zF h1 ?_|fail)
 rw[show((N:Int)-1-1)=((N-1-0:Nat):Int)-1 by omega]
 have hz:∀σ,qgI σ ys=ys:=fun σ=>qbr hpu
 refine qaf (N-1) (fun i=>plA n N rl pl g (((N-1-i:Nat):Int)-1) (qgA n T p (N-1-i)) ys) (fun _=>True) ?_ trivial ?_
 ·exact qaa (nx:=96) (k:=0) (ns:=[]) (ks:=[6,5,4,0,1]) [(160,1),(288,2)] rfl (by simp) (Eq.trans (b:=plA n N rl pl g (((N-1-0:Nat):Int)-1) (qgA n T p (N-1-0)) (qgI [(160,1),(288,2)] ys)) (by kernel_rfl) (by rw[hz]))
 intro i hi _
 have htl:∀t,(qgA n T p t).length=N:=fun t=>by rw[hN];exact qeN
 by_cases hL:i<N-1
 rotate_left
 ·obtain rfl:i=N-1:=by omega
  rw[Nat.sub_self]
  have hl0:=htl 0
  unfold plA
  repeat'(first|refine zQ ?_|fail)
  all_goals try(exfalso;omega)
  exact qcs rfl rfl (qel rfl hl0.symm) (qel rfl hl0.symm)
 obtain⟨t,ht⟩:∃t,N-1-i=t+1:=⟨N-1-i-1,by omega⟩
 have ht':N-1-(i+1)=t:=by omega
 rw[ht,ht']
 rw[show((t+1:Nat):Int)-1=(t:Int)by omega]
 have htN:t<N-1:=by omega
 have hk0:qfs n T p t 0=qgA n T p (t+1):=qwO
 have hkn:qfs n T p t n=qgA n T p t:=qwP (by omega)
 rw[←hk0,←hkn]
 unfold plA
 repeat'(first|((with_reducible apply qao);rfl;rfl)|refine zS ?_|refine zA ?_|fail)
 all_goals try(exfalso;omega)
 refine qaf n (fun k=>plB n N rl pl g k t (qfs n T p t k) ys) (fun _=>True) ?_ trivial ?_
 ·exact qaa (nx:=96) (k:=0) (ns:=[]) (ks:=[32,31,6,5,4,0,1]) [(1,1),(2,2)] rfl (by simp) (Eq.trans (b:=plB n N rl pl g 0 t (qfs n T p t 0) (qgI [(1,1),(2,2)] ys)) (by kernel_rfl) (by rw[hz]))
 intro k hk _
 have hkl:(qfs n T p t k).length=N:=by rw[hN];exact qgB
 unfold plB
 by_cases hK:k<n
 rotate_left
 ·obtain rfl:k=n:=by omega
  repeat'(first|refine zQ ?_|(refine zC ?_ ?_<;>first|intro h|simp)|fail)
  all_goals try exact absurd (show k<k by omega) hK
  refine⟨hL,trivial,?_⟩
  exact qaa (nx:=96) (k:=0) (ns:=[]) (ks:=[6,5,4,0,1]) [(1,1),(2,2)] rfl (by simp) (Eq.trans (b:=plA k N rl pl g ((t:Int)-1) (qfs k T p t k) (qgI [(1,1),(2,2)] ys)) (by kernel_rfl) (by rw[hz];rfl))
 have ht2N:t<2^n:=by omega
 have c2:=h2 t k (by omega) hK
 have hent:∀L:List (Option Int),(plB n N rl pl g (k+1) t L (qgI [(1,1),(2,2)] ys))=plB n N rl pl g (k+1) t L ys:=fun L=>by rw[hz]
 cases hx:nx T t k with
 |false=>
  rw[qpg ht2N (by unfold qho;rw[if_neg (by rw[hx];simp)])]
  rw[hx]at c2
  repeat'(first|refine zQ ?_|refine zF c2 ?_|(refine zC ?_ ?_<;>first|intro h|simp)|fail)
  all_goals try exact absurd hK (by omega)
  exact⟨hK,trivial,qaa (nx:=96) (k:=0) (ns:=[]) (ks:=[32,31,6,5,4,0,1]) [(1,1),(2,2)] rfl (by simp) (Eq.trans (by kernel_rfl) (hent _))⟩
 |true=>
  rw[hx]at c2
  have hb:=nx_bit hx
  have hor:t|||2^k<N:=by rw[hN];exact qtw ht2N hK
  have f1:(qfs n T p t k)[t|||2^k]'(by omega)=qdd n T p (cz n t-1) (t|||2^k):=qwQ ht2N hK hb
  have f2:(qfs n T p t k)[t]'(by omega)=best ((List.range k).map (qho n T p (cz n t-1) t)):=qsb ht2N
  have hpk:2^k<N:=by have:=Nat.pow_lt_pow_right (a:=2) (by omega) hK;omega
  cases hq:qdd n T p (cz n t-1) (t|||2^k)with
  |none=>
   rw[hq]at f1
   rw[qpg ht2N (by unfold qho;rw[if_pos hx,hq];rfl)]
   repeat'(first|((with_reducible apply qdP);rfl;rfl;rfl;omega)|((with_reducible apply qmZ);rfl;rfl;rfl;(exact⟨by omega,by omega⟩))|refine zS ?_|refine zA ?_|refine zF c2 ?_|(refine zI ?_;intro hlt)|(refine zC ?_ ?_<;>first|intro h|simp)|fail)
   all_goals try exact absurd hK (by omega)
   all_goals first
    |exact⟨hK,trivial,qaa (nx:=96) (k:=0) (ns:=[]) (ks:=[32,31,6,5,4,0,1]) [(1,1),(2,2)] rfl (by simp) (Eq.trans (by kernel_rfl) (hent _))⟩
    |(exfalso;simp[f1]at *;done)
    |trace_state
  |some q=>
   rw[hq]at f1
   have f3:((qfs n T p t k)[t|||2^k]'(by omega)).getD 0=q:=by rw[f1];rfl
   have hv:qho n T p (cz n t-1) t k=some (p t k+q):=by unfold qho;rw[if_pos hx,hq];rfl
   have hst1:=qpf (n:=n) (R:=T) (p:=p) (t:=t) (k:=k)
   rw[hv]at hst1
   have hgk:=hg t k (by omega) hK
   have hBk:=hB t k hK hx
   have hqb:=qwU hB hq
   have hcz:cz n t≤n:=qF2
   have hqb2:((cz n t-1:Nat):Int)*1000000000000000≤8*1000000000000000:=by omega
   cases hbst:best ((List.range k).map (qho n T p (cz n t-1) t))with
   |none=>
    rw[hbst]at f2 hst1
    have hst2:qfs n T p t (k+1)=(qfs n T p t k).set t (some (p t k+q)):=hst1
    repeat'(first|((with_reducible apply qdP);rfl;rfl;rfl;omega)|((with_reducible apply qmZ);rfl;rfl;rfl;(exact⟨by omega,by omega⟩))|((with_reducible apply qdo);rfl;rfl;rfl;(exact hst);(exact hgk);rfl)|refine zS ?_|refine zA ?_|refine zF c2 ?_|(refine zI ?_;intro hlt)|(refine zC ?_ ?_<;>first|intro h|simp)|(refine zG ?_ ?_<;>first|intro h|simp)|fail)
    all_goals try exact absurd hK (by omega)
    all_goals try(exfalso;simp[f1]at *;done)
    all_goals try(exfalso;simp[f2]at *;done)
    ·refine qaA (f:=qnv) (l:=qfs n T p t k) (a:=some (p t k+((qfs n T p t k)[t|||2^k]'(by omega)).getD 0)) rfl rfl rfl (by omega) rfl rfl rfl rfl (Nat.le_refl _) rfl ?_
     repeat'(first|refine zA ?_|(refine zI ?_;intro hlt)|fail)
     refine qaA (f:=qic) (l:=qfs n T p t k) (a:=some (p t k+((qfs n T p t k)[t|||2^k]'(by omega)).getD 0)) rfl rfl rfl (by omega) rfl rfl rfl rfl (Nat.le_refl _) rfl ?_
     repeat'(first|refine zQ ?_|fail)
     refine⟨hK,trivial,?_⟩
     rw[f3,←hst2]
     exact qaa (nx:=96) (k:=0) (ns:=[]) (ks:=[32,31,6,5,4,0,1]) [(1,1),(2,2)] rfl (by simp) (Eq.trans (by kernel_rfl) (hent _))
   |some c=>
    rw[hbst]at f2 hst1
    have f4:((qfs n T p t k)[t]'(by omega)).getD 0=c:=by rw[f2];rfl
    by_cases hlt2:p t k+q<c
    ·have hst2:qfs n T p t (k+1)=(qfs n T p t k).set t (some (p t k+q)):=by rw[hst1];simp only[upd,if_pos hlt2]
     repeat'(first|((with_reducible apply qdP);rfl;rfl;rfl;omega)|((with_reducible apply qmZ);rfl;rfl;rfl;(exact⟨by omega,by omega⟩))|((with_reducible apply qdo);rfl;rfl;rfl;(exact hst);(exact hgk);rfl)|refine zS ?_|refine zA ?_|refine zF c2 ?_|(refine zI ?_;intro hlt)|(refine zC ?_ ?_<;>first|intro h|simp)|(refine zG ?_ ?_<;>first|intro h|simp)|fail)
     all_goals try exact absurd hK (by omega)
     all_goals try(exfalso;simp[f1]at *;done)
     all_goals try(exfalso;simp[f2]at *;done)
     all_goals try(exfalso;simp[f1,f2]at *;omega)
     refine qaA (f:=qnv) (l:=qfs n T p t k) (a:=some (p t k+((qfs n T p t k)[t|||2^k]'(by omega)).getD 0)) rfl rfl rfl (by omega) rfl rfl rfl rfl (Nat.le_refl _) rfl ?_
     repeat'(first|refine zA ?_|(refine zI ?_;intro hlt)|fail)
     refine qaA (f:=qic) (l:=qfs n T p t k) (a:=some (p t k+((qfs n T p t k)[t|||2^k]'(by omega)).getD 0)) rfl rfl rfl (by omega) rfl rfl rfl rfl (Nat.le_refl _) rfl ?_
     repeat'(first|refine zQ ?_|fail)
     refine⟨hK,trivial,?_⟩
     rw[f3,←hst2]
     exact qaa (nx:=96) (k:=0) (ns:=[]) (ks:=[32,31,6,5,4,0,1]) [(1,1),(2,2)] rfl (by simp) (Eq.trans (by kernel_rfl) (hent _))
    ·have hst2:qfs n T p t (k+1)=qfs n T p t k:=by
      rw[hst1]
      simp only[upd,if_neg hlt2]
      exact set_same (by omega) f2
     rw[hst2]
     repeat'(first|((with_reducible apply qdP);rfl;rfl;rfl;omega)|((with_reducible apply qmZ);rfl;rfl;rfl;(exact⟨by omega,by omega⟩))|((with_reducible apply qdo);rfl;rfl;rfl;(exact hst);(exact hgk);rfl)|refine zS ?_|refine zA ?_|refine zF c2 ?_|(refine zI ?_;intro hlt)|(refine zC ?_ ?_<;>first|intro h|simp)|(refine zG ?_ ?_<;>first|intro h|simp)|fail)
     all_goals try exact absurd hK (by omega)
     all_goals first
      |exact⟨hK,trivial,qaa (nx:=96) (k:=0) (ns:=[]) (ks:=[32,31,6,5,4,0,1]) [(1,1),(2,2)] rfl (by simp) (Eq.trans (by kernel_rfl) (hent _))⟩
      |(exfalso;simp[f1]at *;done)
      |(exfalso;simp[f2]at *;done)
      |(exfalso;omega)
      |(exfalso;simp[f1,f2]at *;omega)
      |trace_state
end Go.Pv.Soil

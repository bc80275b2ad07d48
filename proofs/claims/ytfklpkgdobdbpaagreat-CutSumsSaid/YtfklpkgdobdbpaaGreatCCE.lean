import Derived.Test.YtfklpkgdobdbpaaGreatCCB
import Derived.Test.YtfklpkgdobdbpaaGreatCCD
/- Part of the proofs over YtfklpkgdobdbpaaGreat: S40, S41, S55, S56, T1, N77, S57, N76. -/
set_option linter.unusedVariables false
set_option linter.unusedSimpArgs false
set_option linter.unnecessarySimpa false
open Go Go.Proofs Go.Pv
set_option maxHeartbeats 8000000
set_option maxRecDepth 100000
set_option linter.unusedSimpArgs false
set_option linter.unusedVariables false
namespace Go.Pv.Soil
structure QSt where
 l:List Int
 mv:Int
 P:List Int
 off:Nat
def qKl(b a:Grid):Nat→Int
 |0=>0
 |n+1=>qKl b a n+if lv b.levels n≠30000∧lv a.levels n≠30000 then(lv b.levels n-lv a.levels n)*b.side*b.side else 0
theorem qLc{d s:Int}(hd: -40000≤d∧d≤40000)(hs:100≤s∧s≤10000):(-400000000≤d*s∧d*s≤400000000)∧ -4000000000000≤d*s*s∧d*s*s≤4000000000000:=by
 have key:∀x y M Y:Int,-M≤x∧x≤M→0≤y∧y≤Y→ -(M*Y)≤x*y∧x*y≤M*Y:=fun x y M Y hx hy=>by
  have h1:x*y≤M*y:=Int.mul_le_mul_of_nonneg_right hx.2 hy.1
  have h2: -M*y≤x*y:=Int.mul_le_mul_of_nonneg_right hx.1 hy.1
  have h3:M*y≤M*Y:=Int.mul_le_mul_of_nonneg_left hy.2 (by omega)
  rw[Int.neg_mul]at h2
  omega
 have h1:=key d s 40000 10000 hd (by omega)
 have h2:=key (d*s) s 400000000 10000 (by omega) (by omega)
 omega
theorem qKX{b a:Grid}(hb:OkGrid b)(ha:OkGrid a)(hl:a.levels.length=b.levels.length):∀n,n≤b.levels.length→ -(4000000000000*(n:Int))≤qKl b a n∧qKl b a n≤4000000000000*(n:Int)
 |0,_=>⟨Int.le_refl _,Int.le_refl _⟩
 |n+1,h=>by
  have ih:=qKX hb ha hl n (by omega)
  simp only[qKl]
  split
  ·rename_i hk
   have r1:=hb.rng n (by omega) hk.1
   have r2:=ha.rng n (by omega) hk.2
   have:=qLc (d:=lv b.levels n-lv a.levels n) (by omega) hb.bds.2.1
   omega
  ·omega
theorem c33(b a:Grid)(hb:OkGrid b)(ha:OkGrid a)(hl:a.levels.length=b.levels.length):Contract Tryz.prog 41 [.agg (encGrid b),.agg (encGrid a)] (.ret (.int .i64 (qKl b a b.levels.length))):=by
 have hs:=hb.small
 refine zT mix Tryz.func41 Tryz.ntmps41 Tryz.results41 rfl rfl rfl ?_;simp only[qac,Nat.reduceAdd]
 repeat'(first|refine zQ ?_|fail)
 refine qaf (b.levels.length) (fun i=>⟨[(6,.int .i64 i),(5,.int .i64 (qKl b a i)),(2,.op 0 0 0),(3,.op 32 0 0)],[(0,⟨6,true,[encGrid b]⟩),(32,⟨6,true,[encGrid a]⟩)],64,42⟩) (fun i=>True) (qaa (k:=0) (ns:=[]) (ks:=[6,5,2,3]) [(0,0),(32,32)] rfl (by simp) rfl) trivial ?_
 intro i hi _
 have hbd:=qKX hb ha hl i hi
 by_cases hlt:i<b.levels.length
 ·have hla:i<a.levels.length:=by omega
  have e1:lv b.levels i=b.levels[i]:=qbu hlt
  have e2:lv a.levels i=a.levels[i]:=qbu hla
  have hnx:qKl b a (i+1)=qKl b a i+if lv b.levels i≠30000∧lv a.levels i≠30000 then(lv b.levels i-lv a.levels i)*b.side*b.side else 0:=rfl
  have r1:=hb.rng i hlt
  have r2:=ha.rng i hla
  have c1:Contract Tryz.prog 62 [.agg (encGrid b),.int .i64 i] (.ret (.bool (!decide (lv b.levels i=30000)))):=qCZ b (i:Int) (by omega) (by omega)
  have c2:Contract Tryz.prog 62 [.agg (encGrid a),.int .i64 i] (.ret (.bool (!decide (lv a.levels i=30000)))):=qCZ a (i:Int) (by omega) (by omega)
  by_cases hk:lv b.levels i≠30000∧lv a.levels i≠30000
  ·have tb:=qLc (d:=b.levels[i]-a.levels[i]) (s:=b.side) (by rw[←e1,←e2];have:=r1 hk.1;have:=r2 hk.2;omega) hb.bds.2.1
   have r1': -20000≤b.levels[i]∧b.levels[i]≤20000:=e1▸r1 hk.1
   have r2': -20000≤a.levels[i]∧a.levels[i]≤20000:=e2▸r2 hk.2
   rw[if_pos hk,e1,e2]at hnx
   repeat'(first|((with_reducible apply(qdZ 19));decide +kernel;rfl)|refine zS ?_|refine zA ?_|refine zF c1 ?_|refine zF c2 ?_|(refine zI ?_;intro hlt)|(refine zC ?_ ?_<;>first|intro h|simp)|(refine zG ?_ ?_<;>first|intro h|simp)|refine zE ?_|fail)
   all_goals first
    |exact absurd hlt (by omega)
    |(refine⟨‹i<b.levels.length›,trivial,?_⟩;rw[hnx];exact qaa (k:=0) (ns:=[]) (ks:=[6,5,2,3]) [(0,0),(32,32)] rfl (by simp) rfl)
    |(exfalso;omega)
    |trace_state
  ·rw[if_neg hk,Int.add_zero]at hnx
   repeat'(first|((with_reducible apply(qdZ 19));decide +kernel;rfl)|refine zS ?_|refine zA ?_|refine zF c1 ?_|refine zF c2 ?_|(refine zI ?_;intro hlt)|(refine zC ?_ ?_<;>first|intro h|simp)|(refine zG ?_ ?_<;>first|intro h|simp)|refine zE ?_|fail)
   all_goals first
    |exact absurd hlt (by omega)
    |exact absurd (And.intro ‹¬lv b.levels i=30000› ‹¬lv a.levels i=30000›) hk
    |(refine⟨‹i<b.levels.length›,trivial,?_⟩;rw[hnx];exact qaa (k:=0) (ns:=[]) (ks:=[6,5,2,3]) [(0,0),(32,32)] rfl (by simp) rfl)
    |trace_state
 ·have e:i=b.levels.length:=by omega
  subst e
  repeat'(first|(with_reducible rfl)|refine zQ ?_|(refine zC ?_ ?_<;>first|intro h|simp)|refine zE ?_|fail)
  all_goals first|exact absurd hlt (by omega)|trace_state
theorem qLl{a b c:Grid}(h1:b.side=a.side):∀{n:Nat},(∀i,i<n→(lv b.levels i=30000↔lv a.levels i=30000)∧(lv c.levels i=30000↔lv b.levels i=30000))→qKl a b n+qKl b c n=qKl a c n
 |0,_=>rfl
 |n+1,h=>by
  have ih:=qLl (c:=c) h1 (n:=n) fun i hi=>h i (by omega)
  obtain⟨h2,h3⟩:=h n (by omega)
  simp only[qKl]
  by_cases ha:lv a.levels n=30000
  ·rw[if_neg (fun hh=>hh.1 ha),if_neg (fun hh=>hh.1 (h2.2 ha)),if_neg (fun hh=>hh.1 ha)];omega
  ·have hb:lv b.levels n≠30000:=fun hh=>ha (h2.1 hh)
   have hc:lv c.levels n≠30000:=fun hh=>hb (h3.1 hh)
   rw[if_pos ⟨ha,hb⟩,if_pos ⟨hb,hc⟩,if_pos ⟨ha,hc⟩,h1]
   have e:(lv a.levels n-lv c.levels n)*a.side*a.side=(lv a.levels n-lv b.levels n)*a.side*a.side+(lv b.levels n-lv c.levels n)*a.side*a.side:=by
    rw[←Int.add_mul,←Int.add_mul]
    rw[show lv a.levels n-lv b.levels n+(lv b.levels n-lv c.levels n)=lv a.levels n-lv c.levels n by omega]
   omega
theorem qK1(a:Grid):∀n,qKl a a n=0
 |0=>rfl
 |n+1=>by
  simp only[qKl,qK1 a n,Int.sub_self,Int.zero_mul,Int.add_zero]
  split<;>rfl
def qKF(l:List Share):Int:=(l.map (·.vol)).sum
theorem qLq:∀(l:List Share) (k:Nat) (s:Share) (h:k<l.length),qKF (l.set k s)+l[k].vol=qKF l+s.vol
 |a::l,0,s,_=>by simp only[qKF,List.set_cons_zero,List.map_cons,List.sum_cons,List.getElem_cons_zero];omega
 |a::l,k+1,s,h=>by
  have:=qLq l k s (by simpa using h)
  simp only[qKF,List.set_cons_succ,List.map_cons,List.sum_cons,List.getElem_cons_succ]at this ⊢
  omega
theorem qL7{l:List Share}{k:Nat}(h:k<l.length)(v:Int):qKF (qrF l k v)=qKF l+v:=by
 rw[qnc h]
 have:=qLq l k ⟨l[k].soil,l[k].vol+v⟩ h
 simp only at this
 omega
def qKG(C:List Part):Nat→Int
 |0=>0
 |j+1=>qKG C j+match C[j]? with
  |some p=>p.top-p.bottom
  |none=>0
theorem qK3{g:Ground}{side:Int}{L:List Share}{C:List Part}(hC:∀q∈C,(qa9 g.soils q.soil).toNat<L.length):∀j,j≤C.length→qKF (qh0 g side L C j)=qKF L+qKG C j*side*side
 |0,_=>by simp[qh0,qKG]
 |j+1,h=>by
  have ih:=qK3 (g:=g) (side:=side) hC j (by omega)
  have hj:j<C.length:=by omega
  rw[qh1 g side L hj,qL7 (by rw[qh2];exact hC _ (List.getElem_mem hj)),ih]
  have e:qKG C (j+1)=qKG C j+(C[j].top-C[j].bottom):=by simp only[qKG,List.getElem?_eq_getElem hj]
  rw[e,Int.add_mul,Int.add_mul]
  omega
theorem qLr{f:Int}{C:List Part}(hC:∀i (h:i<C.length),C[i].top=lev f C i):∀j,j≤C.length→qKG C j=f-lev f C j
 |0,_=>by simp[qKG,lev]
 |j+1,h=>by
  have hj:j<C.length:=by omega
  have ih:=qLr hC j (by omega)
  have h1:=hC j hj
  have e:qKG C (j+1)=qKG C j+(C[j].top-C[j].bottom):=by simp only[qKG,List.getElem?_eq_getElem hj]
  rw[e,ih,qxU hj,h1]
  omega
theorem qL8{g:Ground}(hg:OkG g){p:Pt}{f t:Int}(htf:t≤f):qKG (qaD g p f t) (qaD g p f t).length=f-t:=by
 have hG:=qxW hg (p:=p) htf
 rw[qLr (fun i h=>(hG.1 i h).1) _ (Nat.le_refl _),hG.2]
theorem qKQ{g:Ground}(hg:OkG g){m a:Grid}(hle:∀i,i<m.levels.length→lv a.levels i≤lv m.levels i):∀i,i≤m.levels.length→qKF (qaT g m a i)=qKl m a i
 |0,_=>by
  simp only[qaT,qKl,qKF,List.map_map]
  have:∀l:List Soil,(l.map ((fun s:Share=>s.vol) ∘ fun s:Soil=>(⟨s.name,0⟩:Share))).sum=0:=fun l=>by
   induction l with
   |nil=>rfl
   |cons a l ih=>simp only[List.map_cons,List.sum_cons,ih];rfl
  exact this _
 |i+1,h=>by
  have ih:=qKQ hg hle i (by omega)
  simp only[qaT,qKl]
  split
  ·rename_i hk
   rw[qK3 (fun q hq=>by rw[qdw];exact(qfo hg hq).2.2.2.2) _ (Nat.le_refl _),ih]
   congr 3
   exact qL8 hg (hle i (by omega))
  ·rw[ih];simp
theorem qK4{L:List Share}{i:Nat}(h:i<L.length):qKF (L.take (i+1))=qKF (L.take i)+L[i].vol:=by
 rw[List.take_succ_eq_append_getElem h]
 simp only[qKF,List.map_append,List.sum_append,List.map_cons,List.map_nil,List.sum_cons,List.sum_nil]
 omega
theorem qLQ{L:List Share}{B:Int}(h:VB L B):∀i:Nat,i≤L.length→0≤qKF (L.take i)∧qKF (L.take i)≤B*i
 |0,_=>by simp[qKF]
 |i+1,hi=>by
  have ih:=qLQ h i (by omega)
  have h1:=h i (by omega)
  rw[qK4 (by omega)]
  have e:B*((i+1:Nat):Int)=B*i+B:=by rw[Int.natCast_add,Int.mul_add];simp
  omega
theorem qLR{s:Site}{b:Grid}{c:Cut}(i:Nat):lv (qeL s b c).levels i≤lv b.levels i:=qIa i
theorem qMB{s:Site}{b:Grid}{c:Cut}(hv:c.level<30000)(i:Nat):lv (qeL s b c).levels i=30000↔lv b.levels i=30000:=qvM hv i
theorem qMr{s:Site}{b:Grid}{c:Cut}(hv:c.level<30000):qeL s (qeL s b c) c=qeL s b c:=by
 show(⟨b.x,b.y,b.side,b.cols,b.rows,qgt (qgt b.levels (qaH s c) c.level) (qaH s c) c.level⟩:Grid)=⟨b.x,b.y,b.side,b.cols,b.rows,qgt b.levels (qaH s c) c.level⟩
 rw[qCW hv]
theorem qKR{g:Ground}(hg:OkG g){m:Grid}:∀i,qaT g m m i=g.soils.map fun s=>⟨s.name,0⟩
 |0=>rfl
 |i+1=>by
  rw[←qKR hg (m:=m) i]
  simp only[qaT]
  split
  ·have:qco g m m i=[]:=by unfold qco;exact qvV hg (Int.le_refl _)
   rw[this]
   rfl
  ·rfl
theorem qLE{s:Site}(hg:OkG s.ground){b:Grid}{c:Cut}(hv:c.level<30000):qbb s (qeL s b c) c=s.ground.soils.map fun s=>⟨s.name,0⟩:=by
 unfold qbb
 rw[qMr hv]
 exact qKR hg _
theorem qL9{s:Site}(hg:OkG s.ground){b:Grid}{c:Cut}:qKF (qbb s b c)=qKl b (qeL s b c) b.levels.length:=qKQ hg (fun i _=>qLR i) _ (Nat.le_refl _)
theorem qMb{s:Site}(ok:OkSite s){l:List Cut}(hlc:∀i (hi:i<l.length),OkCut s l[i]){i:Nat}(hL:i<l.length){n:Nat}:qKl s.bed (qeu s l i) n+qKl (qeu s l i) (qeu s l (i+1)) n=qKl s.bed (qeu s l (i+1)) n:=by
 have kn:∀j,j≤l.length→∀k,lv (qeu s l j).levels k=30000↔lv s.bed.levels k=30000:=by
  intro j
  induction j with
  |zero=>intro _ k;exact Iff.rfl
  |succ j ih=>
   intro hj k
   rw[qfr (show j<l.length by omega),qMB (by have:=(hlc j (by omega)).lvl;omega)]
   exact ih (by omega) k
 have hsd:=(qzH (qpa ok hlc i).al).2.2.1
 refine qLl hsd fun k _=>⟨kn i (by omega) k,?_⟩
 rw[kn (i+1) hL,kn i (by omega)]
theorem law_sums(s:Site)(hw:Wide s)(l:List Cut)(hl:l.length≤9223372036854775807):Contract Tryz.prog 7 [.agg (encSite s),.sl (l.map encCut)] (.ret (.bool true)):=by
 have h0:=qqr
 have h2:Contract Tryz.prog 21 [.sl (l.map encCut),.int .i64 8] (.ret (.bool (qxb l 8))):=qBO l hl 8 (by omega)
 have hlv:=hw.lv
 by_cases h100:s.bed.levels.length≤100
 rotate_left
 ·refine zT mix Tryz.func7 Tryz.ntmps7 Tryz.results7 rfl rfl rfl ?_;simp only[qac,Nat.reduceAdd]
  repeat'(first|(with_reducible rfl)|refine zQ ?_|refine zF h0 ?_|refine zF h2 ?_|(refine zG ?_ ?_<;>first|intro h|simp)|refine zE ?_|fail)
  all_goals first|rfl|(exfalso;omega)|(exfalso;simp at *;done)|trace_state
 cases hf:qxb l 8 with
 |false=>
  rw[hf]at h2
  refine zT mix Tryz.func7 Tryz.ntmps7 Tryz.results7 rfl rfl rfl ?_;simp only[qac,Nat.reduceAdd]
  repeat'(first|(with_reducible rfl)|refine zQ ?_|refine zF h0 ?_|refine zF h2 ?_|(refine zG ?_ ?_<;>first|intro h|simp)|refine zE ?_|fail)
  all_goals first|rfl|(exfalso;omega)|(exfalso;simp at *;done)|trace_state
 |true=>
 rw[hf]at h2
 have hlen:=qGf hf
 by_cases hg:FitS s
 rotate_left
 ·obtain⟨e,he,h3⟩:=qLe s hw h100 hg l hl
  refine zT mix Tryz.func7 Tryz.ntmps7 Tryz.results7 rfl rfl rfl ?_;simp only[qac,Nat.reduceAdd]
  repeat'(first|(with_reducible rfl)|refine zQ ?_|refine zF h0 ?_|refine zF h2 ?_|refine zF h3 ?_|(refine zC ?_ ?_<;>first|intro h|simp)|(refine zG ?_ ?_<;>first|intro h|simp)|refine zE ?_|fail)
  all_goals first|rfl|(exfalso;omega)|(exfalso;simp at *;done)|trace_state
 have hz:=hg.z
 have a1:=qhi s hz l hl hg.d
 by_cases hall:qde s l=0
 rotate_left
 ·generalize qde s l=q at*
  refine zT mix Tryz.func7 Tryz.ntmps7 Tryz.results7 rfl rfl rfl ?_;simp only[qac,Nat.reduceAdd]
  repeat'(first|(with_reducible rfl)|refine zQ ?_|refine zF h0 ?_|refine zF h2 ?_|refine zF a1 ?_|(refine zC ?_ ?_<;>first|intro h|simp)|(refine zG ?_ ?_<;>first|intro h|simp)|refine zE ?_|fail)
  all_goals first|rfl|(exfalso;omega)|(exfalso;simp at *;done)|trace_state
 rw[hall]at a1
 obtain⟨hls,hlc⟩:=qfp hall
 have ok:=(qd4 hall).1
 have okg:=okG ok.gr
 have hso:s.ground.soils.length≤8:=qe0 okg
 have aft:∀k:Nat,k≤l.length→Contract Tryz.prog 39 [.agg (encSite s),.sl (l.map encCut),.int .i64 (k:Int)] (.ret (.tup [.agg (encGrid (qeu s l k)),.int .i64 0])):=fun k hk=>by
  have e:qFV s l (k:Int)=(qeu s l k,0):=by unfold qFV;rw[if_neg (not_not_intro hall),if_pos ⟨by omega,by omega⟩,Int.toNat_natCast]
  have:=qFW s hz hg.d l hl (k:Int)
  rw[e]at this
  exact this
 refine zT mix Tryz.func7 Tryz.ntmps7 Tryz.results7 rfl rfl rfl ?_;simp only[qac,Nat.reduceAdd]
 repeat'(first|(with_reducible rfl)|refine zQ ?_|refine zF h0 ?_|refine zF h2 ?_|refine zF a1 ?_|(refine zG ?_ ?_<;>first|intro h|simp)|refine zE ?_|fail)
 refine qaf l.length (fun i=>⟨[(6,.int .i64 i),(5,.int .i64 (qKl s.bed (qeu s l i) s.bed.levels.length)),(1,.sl (l.map encCut)),(2,.op 0 0 0)],[(0,⟨12,true,[encSite s]⟩)],32,175⟩) (fun i=>True) ?_ trivial ?_
 ·have e:qKl s.bed (qeu s l 0) s.bed.levels.length=0:=qK1 _ _
  show qck _ ⟨[(6,.int .i64 ((0:Nat):Int)),(5,.int .i64 (qKl s.bed (qeu s l 0) s.bed.levels.length)),(1,.sl (l.map encCut)),(2,.op 0 0 0)],[(0,⟨12,true,[encSite s]⟩)],32,175⟩
  rw[e]
  exact qaa (nx:=32) (k:=0) (ns:=[]) (ks:=[6,5,1,2]) [(0,0)] rfl (by simp) (by kernel_rfl)
 intro i hi _
 have hbI:=qKX (b:=s.bed) (a:=qeu s l i) ok.bed (qpa ok hlc i).ok ((qpa ok hlc i).len ok.bed) s.bed.levels.length (Nat.le_refl _)
 by_cases hL:i<l.length
 rotate_left
 ·obtain rfl:i=l.length:=by omega
  have b1:=aft l.length (Nat.le_refl _)
  have b2:=c33 s.bed (qeu s l l.length) ok.bed (qpa ok hlc l.length).ok ((qpa ok hlc l.length).len ok.bed)
  generalize qKl s.bed (qeu s l l.length) s.bed.levels.length=F at*
  repeat'(first|refine zQ ?_|refine zF b1 ?_|refine zF b2 ?_|(refine zC ?_ ?_<;>first|intro h|simp)|refine zE ?_|fail)
  all_goals first|rfl|(simp;done)|exact absurd hL (by omega)|trace_state
 have hob:=qpa ok hlc i
 have hoa:=qpa ok hlc (i+1)
 have ea:=qfr (s:=s) hL
 have hnb:=hob.len ok.bed
 have hna:=hoa.len ok.bed
 have hc:=hlc i hL
 have hclv:=hc.lvl
 have hone:qde s [l[i]]=0:=qLd hall hL
 have b1:=aft i hi
 have b2:Contract Tryz.prog 39 [.agg (encSite s),.sl (l.map encCut),.int .i64 ((i:Int)+1)] (.ret (.tup [.agg (encGrid (qeu s l (i+1))),.int .i64 0])):=aft (i+1) hL
 have b3:=qBf s hz hg.d (qeu s l i) (by omega) l[i]
 have b4:=qBf s hz hg.d (qeu s l (i+1)) (by omega) l[i]
 have e3:qv9 s (qeu s l i) l[i]=qbb s (qeu s l i) l[i]:=if_pos (qK5 hone hob)
 have e4:qv9 s (qeu s l (i+1)) l[i]=s.ground.soils.map fun s=>⟨s.name,0⟩:=by
  rw[show qv9 s (qeu s l (i+1)) l[i]=qbb s (qeu s l (i+1)) l[i]from if_pos (qK5 hone hoa),ea]
  exact qLE okg (by omega)
 rw[e3,qK5 hone hob]at b3
 rw[e4,qK5 hone hoa]at b4
 have hvol:=qL9 okg (s:=s) (b:=qeu s l i) (c:=l[i])
 rw[←ea,hnb]at hvol
 have hVB:VB (qbb s (qeu s l i) l[i]) (48000000000000*((qeu s l i).levels.length:Int)):=by
  unfold qbb
  exact qh3 okg hob.ok (qeM ok.bed hob hc).ok (qaZ _ _ _) _ (Nat.le_refl _)
 have htl:(qbb s (qeu s l i) l[i]).length=s.ground.soils.length:=qdw _ _ _ _
 have hfa:=qMb ok hlc hL (n:=s.bed.levels.length)
 have hle:∀k,lv (qeu s l (i+1)).levels k≤lv (qeu s l i).levels k:=fun k=>by rw[ea];exact qLR k
 have hul:(s.ground.soils.map fun s=>(⟨s.name,0⟩:Share)).length=s.ground.soils.length:=by simp
 have hu:∀k (hk:k<(s.ground.soils.map fun s=>(⟨s.name,0⟩:Share)).length),((s.ground.soils.map fun s=>(⟨s.name,0⟩:Share))[k]).vol=0:=fun k hk=>by simp
 generalize s.ground.soils.map (fun s=>(⟨s.name,0⟩:Share))=U at*
 generalize qbb s (qeu s l i) l[i]=T at*
 generalize hA:qeu s l (i+1)=A at*
 generalize hB:qeu s l i=B at*
 have hbT:=qLQ hVB
 repeat'(first|refine zQ ?_|refine zF b1 ?_|refine zF b2 ?_|refine zF b3 ?_|refine zF b4 ?_|(refine zI ?_;intro hlt)|(refine zC ?_ ?_<;>first|intro h|simp)|(refine zG ?_ ?_<;>first|intro h|simp)|refine zE ?_|fail)
 all_goals try exact absurd hL (by omega)
 all_goals try(exfalso;simp at *;done)
 all_goals try(exfalso;omega)
 refine qaf T.length (fun k=>⟨[(15,.int .i64 k),(13,.sl (U.map qa5)),(11,.sl (T.map qa5)),(6,.int .i64 i),(5,.int .i64 (qKl s.bed B s.bed.levels.length+qKF (T.take k))),(1,.sl (l.map encCut)),(2,.op 0 0 0),(7,.op 1 0 0),(9,.op 2 0 0)],[(0,⟨12,true,[encSite s]⟩),(1,⟨6,false,[encGrid B]⟩),(2,⟨6,false,[encGrid A]⟩)],96,175⟩) (fun k=>True) ?_ trivial ?_
 ·show qck _ ⟨[(15,.int .i64 ((0:Nat):Int)),(13,.sl (U.map qa5)),(11,.sl (T.map qa5)),(6,.int .i64 i),(5,.int .i64 (qKl s.bed B s.bed.levels.length+qKF (T.take 0))),(1,.sl (l.map encCut)),(2,.op 0 0 0),(7,.op 1 0 0),(9,.op 2 0 0)],[(0,⟨12,true,[encSite s]⟩),(1,⟨6,false,[encGrid B]⟩),(2,⟨6,false,[encGrid A]⟩)],96,175⟩
  rw[show qKF (T.take 0)=0 by simp[qKF],Int.add_zero]
  exact qaa (nx:=96) (k:=0) (ns:=[]) (ks:=[15,13,11,6,5,1,2,7,9]) [(0,0),(384,1),(736,2)] rfl (by simp) (by kernel_rfl)
 intro k hk _
 have hbk:=hbT k hk
 by_cases hK:k<T.length
 ·have hst:=qK4 hK
  have hbk1:=hbT (k+1) hK
  have hvk:=hVB k hK
  have e5:qKl s.bed B s.bed.levels.length+qKF (T.take k)+T[k].vol=qKl s.bed B s.bed.levels.length+qKF (T.take (k+1)):=by omega
  have hbb:48000000000000*(B.levels.length:Int)≤4800000000000000:=by omega
  have hbc:48000000000000*(B.levels.length:Int)*(k:Int)≤4800000000000000*8:=Int.le_trans (Int.mul_le_mul_of_nonneg_right hbb (by omega)) (by omega)
  generalize hFF:qKl s.bed B s.bed.levels.length=FF at*
  generalize hV0:qKF (T.take k)=V0 at*
  generalize hV1:qKF (T.take (k+1))=V1 at*
  have hbd1: -9223372036854775808≤FF+V0+T[k].vol∧FF+V0+T[k].vol≤9223372036854775807:=by omega
  repeat'(first|refine zQ ?_|(refine zI ?_;intro hlt)|(refine zC ?_ ?_<;>first|intro h|simp)|fail)
  all_goals first
   |exact absurd hK (by omega)
   |(refine⟨hK,trivial,?_⟩
     rw[←e5]
     exact qaa (nx:=96) (k:=0) (ns:=[]) (ks:=[15,13,11,6,5,1,2,7,9]) [(0,0),(1,1),(2,2)] rfl (by simp) (by kernel_rfl))
   |trace_state
 ·obtain rfl:k=T.length:=by omega
  rw[List.take_length,hvol,hfa]
  repeat'(first|refine zQ ?_|(refine zI ?_;intro hlt)|(refine zC ?_ ?_<;>first|intro h|simp)|fail)
  all_goals try exact absurd (show T.length<T.length by omega) hK
  refine qaf U.length (fun k=>⟨[(16,.int .i64 k),(13,.sl (U.map qa5)),(11,.sl (T.map qa5)),(6,.int .i64 i),(5,.int .i64 (qKl s.bed A s.bed.levels.length)),(1,.sl (l.map encCut)),(2,.op 0 0 0),(7,.op 1 0 0),(9,.op 2 0 0)],[(0,⟨12,true,[encSite s]⟩),(1,⟨6,false,[encGrid B]⟩),(2,⟨6,false,[encGrid A]⟩)],96,175⟩) (fun k=>True) ?_ trivial ?_
  ·exact qaa (nx:=96) (k:=0) (ns:=[]) (ks:=[16,13,11,6,5,1,2,7,9]) [(0,0),(1,1),(2,2)] rfl (by simp) (by kernel_rfl)
  intro u hu' _
  by_cases hU:u<U.length
  ·have hz0:=hu u hU
   repeat'(first|refine zQ ?_|(refine zI ?_;intro hlt)|(refine zC ?_ ?_<;>first|intro h|simp)|refine zE ?_|fail)
   all_goals first
    |exact absurd hU (by omega)
    |exact⟨hU,trivial,qaa (nx:=96) (k:=0) (ns:=[]) (ks:=[16,13,11,6,5,1,2,7,9]) [(0,0),(1,1),(2,2)] rfl (by simp) (by kernel_rfl)⟩
    |(exfalso;omega)
    |(exfalso;simp at *;done)
    |trace_state
  ·repeat'(first|refine zQ ?_|(refine zI ?_;intro hlt)|(refine zC ?_ ?_<;>first|intro h|simp)|refine zE ?_|fail)
   all_goals try exact absurd (show u<U.length by omega) hU
   refine qaf s.bed.levels.length (fun k=>⟨[(17,.int .i64 k),(13,.sl (U.map qa5)),(11,.sl (T.map qa5)),(6,.int .i64 i),(5,.int .i64 (qKl s.bed A s.bed.levels.length)),(1,.sl (l.map encCut)),(2,.op 0 0 0),(7,.op 1 0 0),(9,.op 2 0 0)],[(0,⟨12,true,[encSite s]⟩),(1,⟨6,false,[encGrid B]⟩),(2,⟨6,false,[encGrid A]⟩)],96,175⟩) (fun k=>True) ?_ trivial ?_
   ·exact qaa (nx:=96) (k:=0) (ns:=[]) (ks:=[17,13,11,6,5,1,2,7,9]) [(0,0),(1,1),(2,2)] rfl (by simp) (by kernel_rfl)
   intro v hv' _
   by_cases hV:v<s.bed.levels.length
   ·have hvA:v<A.levels.length:=by omega
    have hvB:v<B.levels.length:=by omega
    have eA:=qbu hvA
    have eB:=qbu hvB
    have hle':=hle v
    repeat'(first|refine zQ ?_|(refine zI ?_;intro hlt)|(refine zC ?_ ?_<;>first|intro h|simp)|refine zE ?_|fail)
    all_goals first
     |exact absurd hV (by omega)
     |exact⟨hV,trivial,qaa (nx:=96) (k:=0) (ns:=[]) (ks:=[17,13,11,6,5,1,2,7,9]) [(0,0),(1,1),(2,2)] rfl (by simp) (by kernel_rfl)⟩
     |(exfalso;omega)
     |(exfalso;simp at *;done)
     |trace_state
   ·repeat'(first|refine zQ ?_|(refine zI ?_;intro hlt)|(refine zC ?_ ?_<;>first|intro h|simp)|refine zE ?_|fail)
    all_goals first
     |exact absurd hV (by omega)
     |(refine⟨hL,trivial,?_⟩
       exact qaa (nx:=32) (k:=0) (ns:=[]) (ks:=[6,5,1,2]) [(0,0)] rfl (by simp) (by kernel_rfl))
     |trace_state
end Go.Pv.Soil

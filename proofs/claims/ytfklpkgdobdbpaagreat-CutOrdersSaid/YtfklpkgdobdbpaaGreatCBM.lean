import Derived.Test.YtfklpkgdobdbpaaGreatCBG
import Derived.Test.YtfklpkgdobdbpaaGreatCBL
/- Part of the proofs over YtfklpkgdobdbpaaGreat: S37, N24. -/
set_option linter.unusedVariables false
set_option linter.unusedSimpArgs false
set_option linter.unnecessarySimpa false
open Go Go.Proofs Go.Pv
set_option maxHeartbeats 8000000
set_option maxRecDepth 100000
set_option linter.unusedSimpArgs false
set_option linter.unusedVariables false
namespace Go.Pv.Soil
theorem c59(g:Ground)(hg:OkG g)(hsl:g.soils.length<1000000000000)(a:Grid)(ha:OkGrid a):
  Contract Tryz.prog 60 [.agg (qam g),.agg (qag a)] (.ret (.fr 3 ((qbI g a a.levels.length).map qbW))):=by
 have hs:=ha.small
 refine zT mix Tryz.func60 Tryz.ntmps60 Tryz.results60 rfl rfl rfl ?_;simp only[qab,Nat.reduceAdd]
 repeat'(first|refine zQ ?_|fail)
 refine qad a.levels.length (fun i=>⟨[(5,.os 2 0 (qbI g a i).length),(6,.int .i64 i),(2,.op 0 0 0),(3,.op 1 0 0)],[(2,⟨3,true,(qbI g a i).map qbW⟩),(0,⟨2,true,[qam g]⟩),(1,⟨6,true,[qag a]⟩)],32,96⟩) (fun _=>True)
  (qaa (nx:=32) (k:=3) (ns:=[(5,2)]) (ks:=[6,2,3]) [(0,0),(32,1)] rfl (by simp;rfl) rfl) trivial ?_
 intro i hi _
 by_cases hlt:i<a.levels.length
 ·have c107i:=qKn a ha i hlt
  repeat'(first|((with_reducible apply qdT);rfl;(exact c107i);(exact qbL);rfl)|refine zQ ?_|(refine zC ?_ ?_<;>first|intro h|simp)|fail)
  ·have hNm:∀j (hj:j<(qbi a i a.levels.length).length),0≤(qbi a i a.levels.length)[j]∧(qbi a i a.levels.length)[j]<a.levels.length:=fun j hj=>by
    obtain⟨k,h1,h2,_⟩:=(qcW a i _ _).1 (List.getElem_mem hj)
    omega
   have hNl:=qd0 a i a.levels.length
   have hend:=qjO g a i
   have hAl:=qgw g a (qbi a i a.levels.length) i
   have hsucc:=fun j hj=>qem g a (N:=qbi a i a.levels.length) i (j:=j) hj
   have hmul:=Nat.mul_le_mul (show i≤1024 by omega) hs
   generalize qbi a i a.levels.length=N at*
   refine qad N.length (fun j=>⟨[(5,.os 2 0 (qaE g a N i j).length),(8,.int .i64 j),(7,.os 3 0 N.length),(6,.int .i64 i),(2,.op 0 0 0),(3,.op 1 0 0)],[(2,⟨3,true,(qaE g a N i j).map qbW⟩),(3,⟨1,true,N.map qal⟩),(0,⟨2,true,[qam g]⟩),(1,⟨6,true,[qag a]⟩)],32,96⟩) (fun _=>True)
    (qaa (nx:=32) (k:=1) (ns:=[]) (ks:=[5,8,7,6,2,3]) [(2,2),(256,3),(0,0),(1,1)] rfl (by simp) (by kernel_rfl)) trivial ?_
   intro j hj _
   by_cases hlj:j<N.length
   ·have hb:=hNm j hlj
    have hl1:(qaE g a N i j).length≤1000000000:=by have:=hAl j hj;omega
    have hnil:qbx g a i N[j]=[]→qaE g a N i (j+1)=qaE g a N i j:=fun h=>by rw[hsucc j hlj,h,List.append_nil]
    have hone:∀s,qbx g a i N[j]=[s]→qaE g a N i (j+1)=qaE g a N i j++[s]:=fun s h=>by rw[hsucc j hlj,h]
    have e1:=qbv hlt
    have e2:lv a.levels N[j].toNat=a.levels[N[j].toNat]'(by omega):=qbv (by omega)
    have b1: -20000≤a.levels[i]∧a.levels[i]≤30000:=by
     have:=ha.rng i hlt
     omega
    have b2: -20000≤a.levels[N[j].toNat]'(by omega)∧a.levels[N[j].toNat]'(by omega)≤30000:=by
     have:=ha.rng N[j].toNat (by omega)
     omega
    have b3:=qfr hg ha i N[j].toNat
    have c1:Contract Tryz.prog 62 [.agg (qag a),.int .i64 i] (.ret (.bool (!decide (lv a.levels i=30000)))):=qC5 a (i:Int) (by omega) (by omega)
    have c2:=qC5 a N[j] hb (by omega)
    have c3:Contract Tryz.prog 137 [.agg (qam g),.agg (qag a),.int .i64 i,.int .i64 N[j]] (.ret (.int .i64 (qba g a i N[j].toNat))):=qKu g hg hsl a ha (i:Int) N[j] (by omega) (by omega)
    have c4:=qHY (a.levels[i]-a.levels[N[j].toNat]'(by omega)) (by omega)
    repeat'(first|refine zQ ?_|refine zF c1 ?_|refine zF c2 ?_|refine zF c3 ?_|refine zF c4 ?_|(refine zI ?_;intro hlt)|(refine zC ?_ ?_<;>first|intro h|simp)|(refine zG ?_ ?_<;>first|intro h|simp)|fail)
    all_goals try first
     |exact absurd hlj (by omega)
     |(refine⟨hlj,trivial,?_⟩
       rw[hnil (by unfold qbx;(repeat' split)<;>first|rfl|(exfalso;omega))]
       exact qaa (nx:=32) (k:=1) (ns:=[]) (ks:=[5,8,7,6,2,3]) [(2,2),(3,3),(0,0),(1,1)] rfl (by simp) (by kernel_rfl))
    ·have hev:((a.levels[i]-a.levels[N[j].toNat]'(by omega)).natAbs:Int)=a.levels[i]-a.levels[N[j].toNat]'(by omega):=by omega
     refine qaH (f:=qbW) (a:=⟨_,_,_⟩) (l:=qaE g a N i j) qgv rfl rfl rfl rfl rfl rfl (by kernel_rfl) (by kernel_rfl) hl1 rfl ?_
     repeat'(first|refine zQ ?_|fail)
     refine⟨hlj,trivial,?_⟩
     have e:=hone ⟨i,N[j],((a.levels[i]-a.levels[N[j].toNat]'(by omega)).natAbs:Int)-qba g a i N[j].toNat⟩ (by unfold qbx;rw[if_neg (by omega),if_neg (by omega),if_pos (by omega),e1,e2,hev])
     have el:(qaE g a N i j).length+1=(qaE g a N i (j+1)).length:=by rw[e];simp
     rw[←e,el]
     exact qaa (nx:=32) (k:=1) (ns:=[]) (ks:=[5,8,7,6,2,3]) [(2,2),(3,3),(0,0),(1,1)] rfl (by simp) (by kernel_rfl)
    ·have hev:((a.levels[i]-a.levels[N[j].toNat]'(by omega)).natAbs:Int)=a.levels[N[j].toNat]'(by omega)-a.levels[i]:=by omega
     refine qaH (f:=qbW) (a:=⟨_,_,_⟩) (l:=qaE g a N i j) qgv rfl rfl rfl rfl rfl rfl (by kernel_rfl) (by kernel_rfl) hl1 rfl ?_
     repeat'(first|refine zQ ?_|fail)
     refine⟨hlj,trivial,?_⟩
     have e:=hone ⟨N[j],i,((a.levels[i]-a.levels[N[j].toNat]'(by omega)).natAbs:Int)-qba g a i N[j].toNat⟩ (by unfold qbx;rw[if_neg (by omega),if_pos (by omega),if_pos (by omega),e1,e2,hev])
     have el:(qaE g a N i j).length+1=(qaE g a N i (j+1)).length:=by rw[e];simp
     rw[←e,el]
     exact qaa (nx:=32) (k:=1) (ns:=[]) (ks:=[5,8,7,6,2,3]) [(2,2),(3,3),(0,0),(1,1)] rfl (by simp) (by kernel_rfl)
   ·have e:j=N.length:=by omega
    subst e
    repeat'(first|refine zQ ?_|(refine zI ?_;intro hlt)|(refine zC ?_ ?_<;>first|intro h|simp)|(refine zG ?_ ?_<;>first|intro h|simp)|fail)
    rotate_left
    all_goals try exact absurd ‹_› (by omega)
    refine⟨hlt,trivial,?_⟩
    rw[hend]
    exact qaa (nx:=32) (k:=1) (ns:=[]) (ks:=[5,6,2,3]) [(2,2),(0,0),(1,1)] rfl (by simp) (by kernel_rfl)
  ·exact absurd hlt (by omega)
 ·have e:i=a.levels.length:=by omega
  subst e
  repeat'(first|refine zQ ?_|(refine zC ?_ ?_<;>first|intro h|simp)|fail)
  ·exact absurd hlt (by omega)
  ·exact qhu rfl rfl rfl rfl
theorem qs5{g:Ground}{m:Grid}(h:qbg g [m]=0):qaB g=0∧qa2 m=0:=by
 unfold qbg at h
 split at h
 ·omega
 ·rename_i h1
  split at h
  ·rename_i h2;omega
  ·rename_i h2
   refine⟨by omega,?_⟩
   simp only[List.map_cons,List.map_nil,qc8]at h2
   split at h2<;>omega
def qoh(g:Ground)(m:Grid):List Steep:=if qbg g [m]=0 then qbI g m m.levels.length else []
theorem c39(g:Ground)(hs:g.soils.length<1000000000000)(hb:g.borings.length<1000000000000)(m:Grid)(hl:m.levels.length<1000000000000):
  Contract Tryz.prog 246 [.agg (qam g),.agg (qag m)] (.ret (.tup [.fr 3 ((qoh g m).map qbW),.int .i64 (qbg g [m])])):=by
 have h93:=c93 g hs hb [m] (by simp) (by simpa using hl)
 by_cases h:qbg g [m]=0
 ·obtain⟨h1,h2⟩:=qs5 h
  have hm:=qf4 h2
  have hg:=okG h1
  rw[show qoh g m=qbI g m m.levels.length from if_pos h]
  rw[h]at h93 ⊢
  refine zT mix Tryz.func246 Tryz.ntmps246 Tryz.results246 rfl rfl rfl ?_;simp only[qab,Nat.reduceAdd]
  repeat'(first|((with_reducible (show qap _ (.call _) _ _ _ _));first|((with_reducible apply(qic (cs:=qag m)));rfl;(exact c94 g hg hs m hm h2);(exact qbL);rfl;rfl;rfl;rfl;rfl)|((with_reducible apply qdT);(exact qnX (cs:=qag m) rfl (by simp) rfl rfl rfl);(exact c95 g hg m hm h2 m hm rfl (fun _ _=>rfl) (fun _ _=>rfl));(exact qgv);rfl))|refine zQ ?_|refine zF h93 ?_|fail)
  all_goals first
   |exact absurd rfl ‹_›
   |exact qbs (qnV rfl (by simp) rfl rfl rfl)
   |trace_state
 ·rw[show qoh g m=[]from if_neg h]
  refine zT mix Tryz.func246 Tryz.ntmps246 Tryz.results246 rfl rfl rfl ?_;simp only[qab,Nat.reduceAdd]
  repeat'(first|refine zQ ?_|refine zF h93 ?_|(refine zC ?_ ?_<;>first|intro h|simp)|fail)
  all_goals first
   |exact qbs (qnW rfl rfl rfl)
   |exact absurd ‹_=_› ‹¬_›
def qp5(f t:Int):List D:=[.int .i64 f,.int .i64 t]
def qeJ(l:List Gauge)(x f:Int):Nat→Int×Int
 |0=>(0,0)
 |n+1=>if n=0 then(qdt l x f).1 else(min (qeJ l x f n).1 (qdt l x (f+n)).1.1,max (qeJ l x f n).2 (qdt l x (f+n)).1.2)
def qfu(l:List Gauge)(x f:Int)(n:Nat):Prop:=∀i,i<n→(qdt l x (f+i)).2=true
instance (l:List Gauge)(x f:Int)(n:Nat):Decidable (qfu l x f n):=inferInstanceAs (Decidable (∀i,i<n→_))
theorem qtp{l:List Gauge}{x f:Int}:qeJ l x f 1=(min (qdt l x f).1.1 (qdt l x f).1.1,max (qdt l x f).1.2 (qdt l x f).1.2):=by
 show(if 0=0 then _ else _)=_
 rw[if_pos rfl,Int.min_self,Int.max_self]
theorem qp6{l:List Gauge}{x f:Int}{n:Nat}(h:0<n):qeJ l x f (n+1)=(min (qeJ l x f n).1 (qdt l x (f+n)).1.1,max (qeJ l x f n).2 (qdt l x (f+n)).1.2):=by
 show(if n=0 then _ else _)=_
 rw[if_neg (by omega)]
theorem qFo(l:List Gauge)(hl:l.length≤9223372036854775807)(hml:∀g∈l,g.marks.length≤9223372036854775807)(h0:qcg l=0)(x f t:Int)(hx: -1000000≤x∧x≤1000000)(hf:0≤f)(ht:f≤t∧t≤1000000∧t-f≤3000):Contract Tryz.prog 276 [.sl (l.map qax),.int .i64 x,.agg (qp5 f t)] (.ret (.int .i64 0)):=by
 have h1:=qip l hl hml
 rw[h0]at h1
 refine zT mix Tryz.func276 Tryz.ntmps276 Tryz.results276 rfl rfl rfl ?_;simp only[qab,Nat.reduceAdd]
 repeat'(first|((with_reducible apply qae);rfl;(exact qlv _ _ _);rfl)|(with_reducible rfl)|refine zQ ?_|refine zF h1 ?_|(refine zC ?_ ?_<;>first|intro h|simp)|(refine zG ?_ ?_<;>first|intro h|simp)|refine zE ?_|fail)
 all_goals first|rfl|(exfalso;simp at *;done)|(exfalso;omega)|trace_state
theorem qFp(l:List Gauge)(hl:l.length≤9223372036854775807)(hml:∀g∈l,g.marks.length≤9223372036854775807)(h0:qcg l=0)(x f t:Int)(n:Nat)(hx: -1000000≤x∧x≤1000000)(hf:0≤f)(ht:t=f+n-1)(hn:1≤n∧n≤3000)(hm:t≤1000000):
  Contract Tryz.prog 245 [.sl (l.map qax),.int .i64 x,.agg (qp5 f t)] (.ret (if qfu l x f n then .tup [.agg (qj6 (qeJ l x f n)),.int .i64 0]else .tup [.agg (qj6 (0,0)),.int .i64 11])):=by
 have hg:=qkp h0
 have h1:=qFo l hl hml h0 x f t hx hf (by omega)
 refine zT mix Tryz.func245 Tryz.ntmps245 Tryz.results245 rfl rfl rfl ?_;simp only[qab,Nat.reduceAdd]
 repeat'(first|refine zQ ?_|refine zF h1 ?_|fail)
 all_goals try(exfalso;simp at *;done)
 refine qad n (fun i=>⟨[(10,.int .i64 (f+i)),(9,.op 2 0 0),(6,.op 1 0 0),(5,.op 0 0 0),(0,.sl (l.map qax)),(1,.int .i64 x)],[(0,⟨2,true,[qp5 f t]⟩),(1,⟨2,true,[[.int .i64 0,.int .i64 0]]⟩),(2,⟨2,true,[qj6 (qeJ l x f i)]⟩)],96,56⟩) (fun i=>qfu l x f i) ?_ (fun j hj=>absurd hj (by omega)) ?_
 ·rw[show f+((0:Nat):Int)=f by omega]
  exact qaa (nx:=96) (k:=0) (ns:=[]) (ks:=[10,9,6,5,0,1]) [(0,0),(32,1),(320,2)] rfl (by simp) (by kernel_rfl)
 intro i hi hC
 by_cases hL:i<n
 rotate_left
 ·obtain rfl:i=n:=by omega
  rw[if_pos hC]
  repeat'(first|refine zQ ?_|(refine zC ?_ ?_<;>first|intro h|simp)|refine zE ?_|fail)
  all_goals first
   |rfl
   |(exfalso;omega)
   |trace_state
 have h2:=qDp l hg x (f+i) hx (by omega)
 by_cases hv:(qdt l x (f+i)).2=true
 rotate_left
 ·rw[if_neg (fun h=>hv (h i hL))]
  have hv':(qdt l x (f+i)).2=false:=by simpa using hv
  rw[hv']at h2
  repeat'(first|refine zQ ?_|refine zF h2 ?_|(refine zC ?_ ?_<;>first|intro h|simp)|refine zE ?_|fail)
  all_goals first
   |rfl
   |(exfalso;omega)
   |trace_state
 have hC':qfu l x f (i+1):=fun j hj=>by
  rcases Nat.lt_succ_iff_lt_or_eq.1 hj with h'|rfl
  ·exact hC j h'
  ·exact hv
 rw[hv]at h2
 by_cases hz:i=0
 ·subst hz
  simp only[Int.natCast_zero,show((0:Nat):Int)=0 from rfl,Int.add_zero]at*
  have e:=qtp (l:=l) (x:=x) (f:=f)
  repeat'(first|refine zQ ?_|refine zF h2 ?_|(refine zC ?_ ?_<;>first|intro h|simp)|refine zE ?_|fail)
  all_goals first
   |(exfalso;omega)
   |(refine⟨hL,hC',?_⟩
     rw[e,show f+((0+1:Nat):Int)=f+1 by omega]
     exact qaa (nx:=96) (k:=0) (ns:=[]) (ks:=[10,9,6,5,0,1]) [(0,0),(1,1),(2,2)] rfl (by simp) (by kernel_rfl))
   |trace_state
 ·have e:=qp6 (l:=l) (x:=x) (f:=f) (n:=i) (by omega)
  repeat'(first|refine zQ ?_|refine zF h2 ?_|(refine zC ?_ ?_<;>first|intro h|simp)|refine zE ?_|fail)
  all_goals first
   |(exfalso;omega)
   |(refine⟨hL,hC',?_⟩
     rw[e,show f+((i+1:Nat):Int)=f+i+1 by omega]
     exact qaa (nx:=96) (k:=0) (ns:=[]) (ks:=[10,9,6,5,0,1]) [(0,0),(1,1),(2,2)] rfl (by simp) (by kernel_rfl))
   |trace_state
theorem qFq(l:List Gauge)(hg:OkGauges l)(x f t:Int)(n:Nat)(hx: -1000000≤x∧x≤1000000)(hf:0≤f)(ht:t=f+n-1)(hm:t≤1000000):
  Contract Tryz.prog 188 [.sl (l.map qax),.int .i64 x,.agg (qp5 f t)] (.ret (if qfu l x f n then .tup [.agg (qj6 (qeJ l x f n)),.bool true]else .tup [.agg (qj6 (0,0)),.bool false])):=by
 refine zT mix Tryz.func188 Tryz.ntmps188 Tryz.results188 rfl rfl rfl ?_;simp only[qab,Nat.reduceAdd]
 repeat'(first|refine zQ ?_|fail)
 refine qad n (fun i=>⟨[(9,.int .i64 (f+i)),(8,.op 2 0 0),(6,.op 1 0 0),(5,.op 0 0 0),(0,.sl (l.map qax)),(1,.int .i64 x)],[(0,⟨2,true,[qp5 f t]⟩),(1,⟨2,true,[[.int .i64 0,.int .i64 0]]⟩),(2,⟨2,true,[qj6 (qeJ l x f i)]⟩)],96,47⟩) (fun i=>qfu l x f i) ?_ (fun j hj=>absurd hj (by omega)) ?_
 ·rw[show f+((0:Nat):Int)=f by omega]
  exact qaa (nx:=96) (k:=0) (ns:=[]) (ks:=[9,8,6,5,0,1]) [(0,0),(32,1),(96,2)] rfl (by simp) (by kernel_rfl)
 intro i hi hC
 by_cases hL:i<n
 rotate_left
 ·obtain rfl:i=n:=by omega
  rw[if_pos hC]
  repeat'(first|refine zQ ?_|(refine zC ?_ ?_<;>first|intro h|simp)|refine zE ?_|fail)
  all_goals first
   |rfl
   |(exfalso;omega)
   |trace_state
 have h2:=qDq l hg x (f+i) hx (by omega)
 by_cases hv:(qdt l x (f+i)).2=true
 rotate_left
 ·rw[if_neg (fun h=>hv (h i hL))]
  have hv':(qdt l x (f+i)).2=false:=by simpa using hv
  rw[hv']at h2
  repeat'(first|refine zQ ?_|refine zF h2 ?_|(refine zC ?_ ?_<;>first|intro h|simp)|refine zE ?_|fail)
  all_goals first
   |rfl
   |(exfalso;omega)
   |trace_state
 have hC':qfu l x f (i+1):=fun j hj=>by
  rcases Nat.lt_succ_iff_lt_or_eq.1 hj with h'|rfl
  ·exact hC j h'
  ·exact hv
 rw[hv]at h2
 by_cases hz:i=0
 ·subst hz
  simp only[Int.natCast_zero,show((0:Nat):Int)=0 from rfl,Int.add_zero]at*
  have e:=qtp (l:=l) (x:=x) (f:=f)
  repeat'(first|refine zQ ?_|refine zF h2 ?_|(refine zC ?_ ?_<;>first|intro h|simp)|refine zE ?_|fail)
  all_goals first
   |(exfalso;omega)
   |(refine⟨hL,hC',?_⟩
     rw[e,show f+((0+1:Nat):Int)=f+1 by omega]
     exact qaa (nx:=96) (k:=0) (ns:=[]) (ks:=[9,8,6,5,0,1]) [(0,0),(1,1),(2,2)] rfl (by simp) (by kernel_rfl))
   |trace_state
 ·have e:=qp6 (l:=l) (x:=x) (f:=f) (n:=i) (by omega)
  repeat'(first|refine zQ ?_|refine zF h2 ?_|(refine zC ?_ ?_<;>first|intro h|simp)|refine zE ?_|fail)
  all_goals first
   |(exfalso;omega)
   |(refine⟨hL,hC',?_⟩
     rw[e,show f+((i+1:Nat):Int)=f+i+1 by omega]
     exact qaa (nx:=96) (k:=0) (ns:=[]) (ks:=[9,8,6,5,0,1]) [(0,0),(1,1),(2,2)] rfl (by simp) (by kernel_rfl))
   |trace_state
end Go.Pv.Soil

import Derived.Test.YtfklpkgdobdbpaaGreatCAL
/- Part of the proofs over YtfklpkgdobdbpaaGreat: S67, N19. -/
set_option linter.unusedVariables false
set_option linter.unusedSimpArgs false
set_option linter.unnecessarySimpa false
open Go Go.Proofs Go.Pv
set_option maxHeartbeats 8000000
set_option maxRecDepth 100000
set_option linter.unusedSimpArgs false
set_option linter.unusedVariables false
namespace Go.Pv.Soil
noncomputable def qgQ(q:Quay)(p:Geo.Pt):Int:=q.toe-(10*Geo.offE q.a q.b p)/q.run
def qmf(q:Quay)(p:Geo.Pt):Prop:=(0≤Geo.crossE q.a q.b p∧0≤Geo.alongE q.a q.b p)∧Geo.alongE q.a q.b p≤Geo.spanE (Geo.sqE q.a q.b)
open Classical in
noncomputable def qf6(q:Quay)(p:Geo.Pt):Int×Bool:=if qmf q p then(qgQ q p,decide (-20000≤qgQ q p))else(0,false)
theorem qzx{a b p:Geo.Pt}(ha:Geo.ptOK a=true)(hb:Geo.ptOK b=true)(hp:Geo.ptOK p=true):0≤Geo.offE a b p∧Geo.offE a b p≤8000000000000:=by
 have h1:=Geo.crossE_bd ha hb hp
 have h2:=Geo.absE_nn (Geo.crossE a b p)
 have h3:=Geo.absE_le (B:=8000000000000) (n:=Geo.crossE a b p) h1
 have h4:=(Geo.span_is (Geo.sqE_bd ha hb).2).1.1
 unfold Geo.offE
 refine⟨Int.ediv_nonneg h2 h4,?_⟩
 exact Int.le_trans (Int.ediv_le_self _ h2) h3
theorem qJS(q:Quay)(hq:qeI q=0)(p:Geo.Pt)(hp:Geo.ptOK p=true):Contract Tryz.prog 258 [.agg (qcf q),.agg (gP p)] (.ret (.tup [.int .i64 (qf6 q p).1,.bool (qf6 q p).2])):=by
 obtain⟨⟨ka,kb⟩,⟨kt,kr⟩,hne⟩:=qve hq
 have hl:Geo.lineE q.a q.b p=0:=by unfold Geo.lineE;simp[ka,kb,hp,hne]
 have x1:Contract Tryz.prog 289 [.agg (gP q.a),.agg (gP q.b),.agg (gP p)] (.ret (.tup [.int .i64 (Geo.alongE q.a q.b p),.int .i64 0])):=by
  have:=Geo.c_Along q.a q.b p
  rw[Geo.alongX,if_pos hl,hl]at this
  exact this
 have x2:Contract Tryz.prog 292 [.agg (gP q.a),.agg (gP q.b),.agg (gP p)] (.ret (.tup [.int .i64 (Geo.offE q.a q.b p),.int .i64 0])):=by
  have:=Geo.c_Offset q.a q.b p
  rw[Geo.offX,if_pos hl,hl]at this
  exact this
 have x3:Contract Tryz.prog 290 [.agg (gP q.a),.agg (gP q.b),.agg (gP p)] (.ret (.int .i64 (Geo.crossE q.a q.b p))):=by
  have:=Geo.c_Cross q.a q.b p
  rw[show Geo.crossX q.a q.b p=Geo.crossE q.a q.b p by unfold Geo.crossX;simp[ka,kb,hp]]at this
  exact this
 have x4:Contract Tryz.prog 291 [.agg (gP q.a),.agg (gP q.b)] (.ret (.int .i64 (Geo.spanE (Geo.sqE q.a q.b)))):=by
  have:=Geo.c_Span q.a q.b
  rw[show Geo.spanX q.a q.b=Geo.spanE (Geo.sqE q.a q.b)by unfold Geo.spanX;simp[ka,kb]]at this
  exact this
 have ho:=qzx ka kb hp
 have ht: -20000≤q.toe∧q.toe≤20000:=by simpa[qhp]using kt
 have hd:0≤10*Geo.offE q.a q.b p/q.run:=Int.ediv_nonneg (by omega) (by omega)
 have hd2:10*Geo.offE q.a q.b p/q.run≤80000000000000:=Int.le_trans (Int.ediv_le_self _ (by omega)) (by omega)
 unfold gP at x1 x2 x3 x4
 refine zT mix Tryz.func258 Tryz.ntmps258 Tryz.results258 rfl rfl rfl ?_;simp only[qac,Nat.reduceAdd]
 repeat'(first|refine zQ ?_|refine zF x1 ?_|refine zF x3 ?_|refine zF x4 ?_|refine zF x2 ?_|(refine zC ?_ ?_<;>first|intro h|simp)|(refine zG ?_ ?_<;>first|intro h|simp)|refine zE ?_|fail)
 all_goals first
  |(rw[show qf6 q p=(0,false)from if_neg (by unfold qmf;omega)];rfl)
  |(rw[show qf6 q p=(qgQ q p,decide (-20000≤qgQ q p))from if_pos (by unfold qmf;omega)];rfl)
  |(exfalso;omega)
  |trace_state
instance qKb:TInt Tryz.prog 341 .u64:=⟨by kernel_rfl⟩
instance qKc:TInt Tryz.prog 3 .i64:=⟨by kernel_rfl⟩
theorem qFS(l:List Mark)(hl:l.length<1000000000000)(t:Int)(g:FuncId)(hg:∀x∈l,Contract Tryz.prog g [.agg (qeK x),.int .i64 t] (.ret (.int .i64 (x.minute-t))))(ha:l.Pairwise fun x y=>x.minute<y.minute):
  Contract Tryz.prog 315 [.sl (l.map qeK),.int .i64 t,.clo (.func g) [] []] (.ret (.tup [.int .i64 (l.findIdx fun x=>decide (t≤x.minute):Nat),.bool (decide (l[l.findIdx fun x=>decide (t≤x.minute)]?.map (·.minute)=some t))])):=by
 refine zT mix Tryz.func315 Tryz.ntmps315 Tryz.results315 rfl rfl rfl ?_;simp only[qac,Nat.reduceAdd]
 repeat'(first|refine zQ ?_|fail)
 refine qhH (fun x:Nat×Nat=>x.2-x.1) (fun x=>⟨[(9,.int .i64 (x.1:Nat)),(10,.int .i64 (x.2:Nat)),(8,.int .i64 l.length),(0,.sl (l.map qeK)),(1,.int .i64 t),(2,.clo (.func g) [] [])],[],32,49⟩) (fun x=>(x.1≤x.2∧x.2≤l.length)∧(∀k (hk:k<l.length),k<x.1→l[k].minute<t)∧∀k (hk:k<l.length),x.2≤k→t≤l[k].minute) (0,l.length)
  (qaa (nx:=32) (k:=0) (ns:=[]) (ks:=[9,10,8,0,1,2]) [] rfl (by simp) (by kernel_rfl)) ⟨by simp,fun k hk h=>absurd h (by simp),fun k hk h=>absurd hk (by simp at h;omega)⟩ ?_
 rintro⟨x,y⟩ ⟨⟨hxy,hyl⟩,hlo,hhi⟩
 simp only at hxy hyl hlo hhi
 by_cases hlt0:x<y
 ·have hm:(((x:Int)+y)/2).toNat=(x+y)/2:=by omega
  have hml:(x+y)/2<l.length:=by omega
  have hc:=hg l[(x+y)/2] (List.getElem_mem _)
  repeat'(first|((with_reducible apply qq5);rfl;rfl;omega)|((with_reducible apply qq3);rfl;rfl;rfl;omega)|((with_reducible apply qq4);rfl;rfl;omega)|refine zS ?_|refine zA ?_|(refine zI ?_;intro hlt)|(refine zC ?_ ?_<;>first|intro h|simp)|(refine zG ?_ ?_<;>first|intro h|simp)|refine zE ?_|fail)
  all_goals try exact absurd hlt0 (by omega)
  all_goals simp only[hm]
  refine qm0 (args:=[.tmp 28,.tmp 29]) rfl rfl hc rfl ?_
  repeat'(first|refine zQ ?_|(refine zC ?_ ?_<;>first|intro h|simp)|fail)
  ·refine⟨((x+y)/2+1,y),by simp;omega,⟨⟨by simp;omega,hyl⟩,fun k hk h=>?_,hhi⟩,?_⟩
   ·have:l[k].minute≤l[(x+y)/2].minute:=by
     rcases Nat.lt_or_ge k ((x+y)/2)with h'|h'
     ·have:=List.pairwise_iff_getElem.1 ha k ((x+y)/2) hk hml h';omega
     ·have e:k=(x+y)/2:=by simp at h;omega
      subst e;omega
    omega
   ·simp only
    rw[show((((x+y)/2+1:Nat)):Int)=((x:Int)+y)/2+1 by omega]
    exact qaa (nx:=32) (k:=0) (ns:=[]) (ks:=[9,10,8,0,1,2]) [] rfl (by simp) (by kernel_rfl)
  ·refine⟨(x,(x+y)/2),by simp;omega,⟨⟨by simp;omega,by simp;omega⟩,hlo,fun k hk h=>?_⟩,?_⟩
   ·have:l[(x+y)/2].minute≤l[k].minute:=by
     rcases Nat.lt_or_ge ((x+y)/2) k with h'|h'
     ·have:=List.pairwise_iff_getElem.1 ha ((x+y)/2) k hml hk h';omega
     ·have e:k=(x+y)/2:=by simp at h;omega
      subst e;omega
    omega
   ·simp only
    rw[show((((x+y)/2:Nat)):Int)=((x:Int)+y)/2 by omega]
    exact qaa (nx:=32) (k:=0) (ns:=[]) (ks:=[9,10,8,0,1,2]) [] rfl (by simp) (by kernel_rfl)
 ·obtain rfl:x=y:=by omega
  have hix:(l.findIdx fun z=>decide (t≤z.minute))=x:=by
   rcases Nat.lt_or_ge x l.length with hx|hx
   ·exact(List.findIdx_eq hx).2 ⟨decide_eq_true (hhi x hx (Nat.le_refl x)),fun j hj=>by have:=hlo j (by omega) hj;simp;omega⟩
   ·obtain rfl:x=l.length:=by omega
    refine List.findIdx_eq_length.2 fun z hz=>?_
    obtain⟨j,hj,rfl⟩:=List.mem_iff_getElem.1 hz
    have:=hlo j hj hj
    simp;omega
  rw[hix]
  rcases Nat.lt_or_ge x l.length with hx|hx
  ·rw[List.getElem?_eq_getElem hx]
   have hc:=hg l[x] (List.getElem_mem _)
   rw[show decide (Option.map (fun z:Mark=>z.minute) (some l[x])=some t)=decide (l[x].minute-t=0)from decide_eq_decide.2 (by simp;omega)]
   repeat'(first|refine zQ ?_|(refine zI ?_;intro hlt)|(refine zC ?_ ?_<;>first|intro h|simp)|(refine zG ?_ ?_<;>first|intro h|simp)|refine zE ?_|fail)
   all_goals try exact absurd hx (by omega)
   all_goals try exact absurd hlt0 (by omega)
   refine qm0 (args:=[.tmp 44,.tmp 45]) rfl rfl hc rfl ?_
   repeat'(first|refine zA ?_|refine zE ?_|fail)
   all_goals first|rfl|trace_state
  ·rw[List.getElem?_eq_none hx,show decide (Option.map (fun z:Mark=>z.minute) none=some t)=false by simp]
   repeat'(first|refine zQ ?_|(refine zI ?_;intro hlt)|(refine zC ?_ ?_<;>first|intro h|simp)|(refine zG ?_ ?_<;>first|intro h|simp)|refine zE ?_|fail)
   all_goals first|exact absurd hlt0 (by omega)|exact absurd hx (by omega)|rfl|trace_state
theorem qFT(l:List Gauge)(hl:l.length<1000000000000)(t:Int)(g:FuncId)(hg:∀x∈l,Contract Tryz.prog g [.agg (qat x),.int .i64 t] (.ret (.int .i64 (x.x-t))))(ha:l.Pairwise fun x y=>x.x<y.x):
  Contract Tryz.prog 298 [.sl (l.map qat),.int .i64 t,.clo (.func g) [] []] (.ret (.tup [.int .i64 (l.findIdx fun x=>decide (t≤x.x):Nat),.bool (decide (l[l.findIdx fun x=>decide (t≤x.x)]?.map (·.x)=some t))])):=by
 refine zT mix Tryz.func298 Tryz.ntmps298 Tryz.results298 rfl rfl rfl ?_;simp only[qac,Nat.reduceAdd]
 repeat'(first|refine zQ ?_|fail)
 refine qhH (fun x:Nat×Nat=>x.2-x.1) (fun x=>⟨[(9,.int .i64 (x.1:Nat)),(10,.int .i64 (x.2:Nat)),(8,.int .i64 l.length),(0,.sl (l.map qat)),(1,.int .i64 t),(2,.clo (.func g) [] [])],[],32,49⟩) (fun x=>(x.1≤x.2∧x.2≤l.length)∧(∀k (hk:k<l.length),k<x.1→l[k].x<t)∧∀k (hk:k<l.length),x.2≤k→t≤l[k].x) (0,l.length)
  (qaa (nx:=32) (k:=0) (ns:=[]) (ks:=[9,10,8,0,1,2]) [] rfl (by simp) (by kernel_rfl)) ⟨by simp,fun k hk h=>absurd h (by simp),fun k hk h=>absurd hk (by simp at h;omega)⟩ ?_
 rintro⟨x,y⟩ ⟨⟨hxy,hyl⟩,hlo,hhi⟩
 simp only at hxy hyl hlo hhi
 by_cases hlt0:x<y
 ·have hm:(((x:Int)+y)/2).toNat=(x+y)/2:=by omega
  have hml:(x+y)/2<l.length:=by omega
  have hc:=hg l[(x+y)/2] (List.getElem_mem _)
  repeat'(first|((with_reducible apply qq5);rfl;rfl;omega)|((with_reducible apply qq3);rfl;rfl;rfl;omega)|((with_reducible apply qq4);rfl;rfl;omega)|refine zS ?_|refine zA ?_|(refine zI ?_;intro hlt)|(refine zC ?_ ?_<;>first|intro h|simp)|(refine zG ?_ ?_<;>first|intro h|simp)|refine zE ?_|fail)
  all_goals try exact absurd hlt0 (by omega)
  all_goals simp only[hm]
  refine qm0 (args:=[.tmp 28,.tmp 29]) rfl rfl hc rfl ?_
  repeat'(first|refine zQ ?_|(refine zC ?_ ?_<;>first|intro h|simp)|fail)
  ·refine⟨((x+y)/2+1,y),by simp;omega,⟨⟨by simp;omega,hyl⟩,fun k hk h=>?_,hhi⟩,?_⟩
   ·have:l[k].x≤l[(x+y)/2].x:=by
     rcases Nat.lt_or_ge k ((x+y)/2)with h'|h'
     ·have:=List.pairwise_iff_getElem.1 ha k ((x+y)/2) hk hml h';omega
     ·have e:k=(x+y)/2:=by simp at h;omega
      subst e;omega
    omega
   ·simp only
    rw[show((((x+y)/2+1:Nat)):Int)=((x:Int)+y)/2+1 by omega]
    exact qaa (nx:=32) (k:=0) (ns:=[]) (ks:=[9,10,8,0,1,2]) [] rfl (by simp) (by kernel_rfl)
  ·refine⟨(x,(x+y)/2),by simp;omega,⟨⟨by simp;omega,by simp;omega⟩,hlo,fun k hk h=>?_⟩,?_⟩
   ·have:l[(x+y)/2].x≤l[k].x:=by
     rcases Nat.lt_or_ge ((x+y)/2) k with h'|h'
     ·have:=List.pairwise_iff_getElem.1 ha ((x+y)/2) k hml hk h';omega
     ·have e:k=(x+y)/2:=by simp at h;omega
      subst e;omega
    omega
   ·simp only
    rw[show((((x+y)/2:Nat)):Int)=((x:Int)+y)/2 by omega]
    exact qaa (nx:=32) (k:=0) (ns:=[]) (ks:=[9,10,8,0,1,2]) [] rfl (by simp) (by kernel_rfl)
 ·obtain rfl:x=y:=by omega
  have hix:(l.findIdx fun z=>decide (t≤z.x))=x:=by
   rcases Nat.lt_or_ge x l.length with hx|hx
   ·exact(List.findIdx_eq hx).2 ⟨decide_eq_true (hhi x hx (Nat.le_refl x)),fun j hj=>by have:=hlo j (by omega) hj;simp;omega⟩
   ·obtain rfl:x=l.length:=by omega
    refine List.findIdx_eq_length.2 fun z hz=>?_
    obtain⟨j,hj,rfl⟩:=List.mem_iff_getElem.1 hz
    have:=hlo j hj hj
    simp;omega
  rw[hix]
  rcases Nat.lt_or_ge x l.length with hx|hx
  ·rw[List.getElem?_eq_getElem hx]
   have hc:=hg l[x] (List.getElem_mem _)
   rw[show decide (Option.map (fun z:Gauge=>z.x) (some l[x])=some t)=decide (l[x].x-t=0)from decide_eq_decide.2 (by simp;omega)]
   repeat'(first|refine zQ ?_|(refine zI ?_;intro hlt)|(refine zC ?_ ?_<;>first|intro h|simp)|(refine zG ?_ ?_<;>first|intro h|simp)|refine zE ?_|fail)
   all_goals try exact absurd hx (by omega)
   all_goals try exact absurd hlt0 (by omega)
   refine qm0 (args:=[.tmp 44,.tmp 45]) rfl rfl hc rfl ?_
   repeat'(first|refine zA ?_|refine zE ?_|fail)
   all_goals first|rfl|trace_state
  ·rw[List.getElem?_eq_none hx,show decide (Option.map (fun z:Gauge=>z.x) none=some t)=false by simp]
   repeat'(first|refine zQ ?_|(refine zI ?_;intro hlt)|(refine zC ?_ ?_<;>first|intro h|simp)|(refine zG ?_ ?_<;>first|intro h|simp)|refine zE ?_|fail)
   all_goals first|exact absurd hlt0 (by omega)|exact absurd hx (by omega)|rfl|trace_state
end Go.Pv.Soil

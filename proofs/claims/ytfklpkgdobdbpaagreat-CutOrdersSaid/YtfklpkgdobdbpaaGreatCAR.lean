import Derived.Test.YtfklpkgdobdbpaaGreatCAQ
/- Part of the proofs over YtfklpkgdobdbpaaGreat: S10, S28, S68, N19. -/
set_option linter.unusedVariables false
set_option linter.unusedSimpArgs false
set_option linter.unnecessarySimpa false
open Go Go.Proofs Go.Pv
set_option maxHeartbeats 8000000
set_option maxRecDepth 100000
set_option linter.unusedSimpArgs false
set_option linter.unusedVariables false
namespace Go.Pv.Soil
theorem c23(g:Ground)(hl:g.soils.length<1000000000000)(hb:g.borings.length<1000000000000):Contract Tryz.prog 98 [.agg (qam g)] (.ret (.int .i64 (qaB g))):=by
 refine zT mix Tryz.func98 Tryz.ntmps98 Tryz.results98 rfl rfl rfl ?_;simp only[qab,Nat.reduceAdd]
 repeat'(first|((with_reducible apply qaj);rfl;(exact c21 g.soils hl);rfl)|refine zQ ?_|(refine zC ?_ ?_<;>first|intro h|simp)|refine zE ?_|fail)
 ·simp only[qaB];rw[if_pos h]
 ·simp only[qaB];rw[if_neg (by simp[*]),if_pos (by omega)]
 ·simp only[qaB];rw[if_neg (by simp[*]),if_neg (by omega),if_pos (by omega)]
 have hs:qaB g=qg4 (·.name) (qn9 g.soils) g.borings:=by
  simp only[qaB];rw[if_neg (by simp[*]),if_neg (by omega),if_neg (by omega)]
 rw[hs]
 refine qad g.borings.length (fun i=>⟨[(4,.int .i64 i),(1,.op 0 0 0)],[(0,⟨2,true,[qam g]⟩)],32,65⟩) (fun i=>∀j,j<i→qcf (·.name) (qn9 g.soils) g.borings j=0)
  (qaa (k:=0) (ns:=[]) (ks:=[4,1]) [(0,0)] rfl (by simp) rfl) (by omega) ?_
 intro i hi hC
 repeat'(first|((with_reducible apply qae);rfl;(exact c83 _);rfl)|refine zQ ?_|(refine zI ?_;intro hlt)|(refine zC ?_ ?_<;>first|intro h|simp)|refine zE ?_|fail)
 ·have h2:i<g.borings.length:=by omega
  try simp only[Int.toNat_natCast]at h
  exact qaV h2 hC (by simp only[qcf,List.getElem?_eq_getElem h2,h];simp) (by decide)
 ·have h2:i<g.borings.length:=by omega
  try simp only[Int.toNat_natCast]at h
  have hnm:=h
  refine qad i (fun j=>⟨[(5,.int .i64 j),(4,.int .i64 i),(1,.op 0 0 0)],[(0,⟨2,true,[qam g]⟩)],32,65⟩) (fun j=>∀k (hk:k<j) (hk':k<g.borings.length),¬g.borings[k].name=g.borings[i].name)
   (qaa (k:=0) (ns:=[]) (ks:=[5,4,1]) [(0,0)] rfl (by simp) rfl) (by omega) ?_
  intro j hj hC2
  repeat'(first|((with_reducible apply qaj);rfl;(exact c89 g.soils g.borings[i] hl);rfl)|refine zQ ?_|(refine zI ?_;intro hlt)|(refine zC ?_ ?_<;>first|intro h|simp)|((with_reducible apply qaz);rfl;rfl)|refine zE ?_|fail)
  all_goals try simp only[Int.toNat_natCast]at*
  ·have h3:((g.borings.take i).any fun y=>decide (y.name=g.borings[i].name))=true:=by
    rw[List.any_eq_true]
    exact⟨g.borings[j]'(by omega),List.mem_iff_getElem.2 ⟨j,by simp;omega,by simp⟩,by simpa using h⟩
   exact qaV h2 hC (by simp only[qcf,List.getElem?_eq_getElem h2,h3,hnm];simp) (by decide)
  ·refine⟨by omega,fun k hk hk'=>?_,qaa (k:=0) (ns:=[]) (ks:=[5,4,1]) [(0,0)] rfl (by simp) rfl⟩
   rcases Nat.lt_succ_iff_lt_or_eq.1 hk with h'|rfl
   ·exact hC2 k h' hk'
   ·exact h
  all_goals
   have h3:((g.borings.take i).any fun y=>decide (y.name=g.borings[i].name))=false:=by
    rw[List.any_eq_false]
    intro y hy
    obtain⟨k,hk,rfl⟩:=List.mem_iff_getElem.1 hy
    simp only[List.length_take]at hk
    simpa using hC2 k (by omega) (by omega)
  ·exact qaV h2 hC (by simp only[qcf,List.getElem?_eq_getElem h2,h3,hnm];simp) h
  ·refine⟨h2,fun k hk=>?_,qaa (k:=0) (ns:=[]) (ks:=[4,1]) [(0,0)] rfl (by simp) rfl⟩
   rcases Nat.lt_succ_iff_lt_or_eq.1 hk with h'|rfl
   ·exact hC k h'
   ·simp only[qcf,List.getElem?_eq_getElem h2,h3,hnm];simpa using h
 ·exact(qaC fun j hj=>hC j (by omega)).symm
theorem qs3{α:Type}{p:α→Bool}{l:List α}(h:0≤qcs p l):(qcs p l).toNat<l.length:=by
 unfold qcs at h ⊢
 split
 ·rename_i i hi
  have:=(List.findIdx?_eq_some_iff_getElem.1 hi).1
  simpa using this
 ·rename_i hi
  rw[hi]at h
  exact absurd h (by decide)
def qpQ(g:Ground)(b:Boring)(i:Nat):Int:=match g.soils[(qbj g.soils (qln b i)).toNat]? with
 |some s=>s.a
 |none=>0
def qrh(g:Ground)(b:Boring):Nat→Int
 |0=>0
 |n+1=>max (qrh g b n) (qpQ g b n)
theorem qlA{g:Ground}{b:Boring}(hb:OkBoring g.soils b){i:Nat}(hi:i<b.layers.length):∃(h1:0≤qbj g.soils b.layers[i].soil) (h2:(qbj g.soils b.layers[i].soil).toNat<g.soils.length),qpQ g b i=(g.soils[(qbj g.soils b.layers[i].soil).toNat]).a:=by
 have h1:=(hb.lay i hi).2.1
 have h2:(qbj g.soils b.layers[i].soil).toNat<g.soils.length:=qs3 h1
 refine⟨h1,h2,?_⟩
 have e:qln b i=b.layers[i].soil:=by simp only[qln,List.getElem?_eq_getElem hi]
 simp only[qpQ,e]
 rw[List.getElem?_eq_getElem h2]
def qvC(g:Ground)(n:Nat):Int:=match g.borings[n]? with
 |some b=>qrh g b b.layers.length
 |none=>0
theorem qKo(g:Ground)(hg:OkG g)(hs:g.soils.length<1000000000000)(p:Pt)(hp:ptOK p=true):Contract Tryz.prog 196 [.agg (qam g),.agg (encPt p)] (.ret (.int .i64 (qvC g (qbq g p)))):=by
 have hn:=qe9 (p:=p) hg.n.1
 have hb:=hg.bor _ hn
 have hll:=hb.len
 have e:qvC g (qbq g p)=qrh g g.borings[qbq g p] g.borings[qbq g p].layers.length:=by simp only[qvC,List.getElem?_eq_getElem hn]
 rw[e]
 refine zT mix Tryz.func196 Tryz.ntmps196 Tryz.results196 rfl rfl rfl ?_;simp only[qab,Nat.reduceAdd]
 repeat'(first|((with_reducible apply qaj);rfl;(exact c47 g hg p hp);rfl)|refine zQ ?_|(refine zI ?_;intro hlt)|fail)
 refine qad (g.borings[qbq g p].layers.length) (fun i=>⟨[(7,.int .i64 i),(6,.int .i64 (qrh g g.borings[qbq g p] i)),(5,.sl (g.borings[qbq g p].layers.map qeZ)),(2,.op 0 0 0)],[(0,⟨2,true,[qam g]⟩)],64,38⟩) (fun i=>True) (qaa (k:=0) (ns:=[]) (ks:=[7,6,5,2]) [(0,0)] rfl (by simp) rfl) trivial ?_
 intro i hi hC
 by_cases hlt:i<g.borings[qbq g p].layers.length
 ·obtain⟨h1,h2,h3⟩:=qlA hb hlt
  repeat'(first|((with_reducible apply qaj);rfl;(exact c84 g.soils hs _);rfl)|((with_reducible apply(qdR 15));decide +kernel;rfl)|refine zS ?_|refine zA ?_|(refine zI ?_;intro hlt)|(refine zC ?_ ?_<;>first|intro h|simp)|refine zE ?_|fail)
  all_goals try exact absurd hlt (by omega)
  refine⟨by omega,trivial,?_⟩
  have e':qrh g g.borings[qbq g p] (i+1)=max (qrh g g.borings[qbq g p] i) (g.soils[(qbj g.soils g.borings[qbq g p].layers[i].soil).toNat]).a:=by
   rw[←h3];rfl
  rw[e']
  exact qaa (k:=0) (ns:=[]) (ks:=[7,6,5,2]) [(0,0)] rfl (by simp) rfl
 ·have e:i=g.borings[qbq g p].layers.length:=by omega
  subst e
  repeat'(first|((with_reducible apply(qdR 15));decide +kernel;rfl)|(with_reducible rfl)|refine zS ?_|refine zA ?_|(refine zI ?_;intro hlt)|(refine zC ?_ ?_<;>first|intro h|simp)|refine zE ?_|fail)
  all_goals first|exact absurd ‹_› (by omega)|trace_state
def qmq(g:Grid):List D:=[.int .i64 g.x,.int .i64 g.y,.int .i64 g.side,.int .i64 g.cols,.int .i64 g.rows]
theorem qMa(n:Int):Contract Tryz.prog 288 [.int .i64 n] (.ret (.int .i64 30000)):=by
 refine zT mix Tryz.func288 Tryz.ntmps288 Tryz.results288 rfl rfl rfl ?_;simp only[qab,Nat.reduceAdd]
 repeat'(first|(with_reducible rfl)|refine zQ ?_|refine zE ?_|fail)
def qlI(n i:Nat):List Int:=List.replicate i 30000++List.replicate (n-i) 0
theorem qFb(n:Nat):List.replicate ((n:Int).toNat) (qai (D.int .i64 0))=(qlI n 0).map qal:=by
 show List.replicate n _=_
 simp[qlI,qal,qai]
theorem qFc(n:Nat):List.replicate n (30000:Int)=qlI n n:=by simp[qlI]
theorem qtk{n i:Nat}(h:i≤n):(qlI n i).length=n:=by simp[qlI];omega
theorem qAf{n i:Nat}(h:i<n):(qlI n i).set i 30000=qlI n (i+1):=by
 unfold qlI
 obtain⟨k,hk⟩:∃k,n-i=k+1:=⟨n-i-1,by omega⟩
 rw[hk,show n-(i+1)=k by omega,List.set_append_right _ _ (by simp),List.length_replicate,Nat.sub_self,List.replicate_succ,List.set_cons_zero,List.replicate_succ' (n:=i),List.append_assoc]
 rfl
theorem qMb(m:Grid)(hl:m.levels.length≤1000000000):Contract Tryz.prog 287 [.agg (qag m),.clo (.func 288) [] []] (.ret (.agg (qmq m++[.fr 1 ((List.replicate m.levels.length (30000:Int)).map qal)]))):=by
 refine zT mix Tryz.func287 Tryz.ntmps287 Tryz.results287 rfl rfl rfl ?_;simp only[qab,Nat.reduceAdd]
 repeat'(first|refine zQ ?_|fail)
 refine qjF (e:=3) (k:=.i64) (k':=.i64) (m:=m.levels.length) (m':=m.levels.length) (z:=.int .i64 0) Tryz.underlying22 rfl rfl (by kernel_rfl) ⟨rfl,by kernel_rfl,by decide +kernel,by omega,rfl,by omega,?_⟩ rfl ?_
 ·have:Tryz.prog.bytesOf 3=8:=by kernel_rfl
  rw[this];omega
 rw[qFb]
 repeat'(first|refine zQ ?_|fail)
 refine qad m.levels.length (fun i=>⟨[(16,.int .i64 i),(15,.int .i64 m.levels.length),(14,.os 3 0 m.levels.length),(5,.op 2 0 0),(4,.op 1 0 0),(1,.clo (.func 288) [] [])],[(1,⟨6,false,[[.int .i64 0,.int .i64 0,.int .i64 0,.int .i64 0,.int .i64 0,.nilsl]]⟩),(2,⟨6,false,[qmq m++[.os 3 0 m.levels.length]]⟩),(3,⟨1,true,(qlI m.levels.length i).map qal⟩)],32,28⟩) (fun i=>True)
  (qaa (nx:=32) (k:=0) (ns:=[]) (ks:=[16,15,14,5,4,1]) [(32,1),(96,2),(256,3)] rfl (by simp) (by kernel_rfl)) trivial ?_
 intro i hi _
 by_cases hlt:i<m.levels.length
 ·have hle:=qtk (n:=m.levels.length) (i:=i) (by omega)
  repeat'(first|refine zQ ?_|(refine zC ?_ ?_<;>first|intro h|simp)|fail)
  rotate_left
  ·exfalso;omega
  refine qmS (g:=288) (ys:=[]) (d1:=.int .i64 i) rfl rfl (fun _ _=>rfl) (qMa i) rfl ?_
  repeat'(first|refine zA ?_|(refine zI ?_;intro hlt)|fail)
  refine qaF (f:=qal) (l:=qlI m.levels.length i) (a:=30000) rfl rfl rfl (by omega) rfl rfl rfl rfl (Nat.le_refl _) rfl ?_
  rw[qAf (n:=m.levels.length) (i:=i) (by omega)]
  repeat'(first|refine zQ ?_|fail)
  exact⟨by omega,trivial,qaa (nx:=32) (k:=0) (ns:=[]) (ks:=[16,15,14,5,4,1]) [(1,1),(2,2),(3,3)] rfl (by simp) (by kernel_rfl)⟩
 ·have e:i=m.levels.length:=by omega
  subst e
  rw[qFc]
  repeat'(first|refine zQ ?_|(refine zC ?_ ?_<;>first|intro h|simp)|fail)
  ·exfalso;omega
  ·exact qbs (qq0 (cs:=qmq m) (len:=m.levels.length) rfl rfl (by simp[qtk]) rfl)
instance qMv:TInt Tryz.prog 341 .u64:=⟨by kernel_rfl⟩
instance qMw:TInt Tryz.prog 3 .i64:=⟨by kernel_rfl⟩
theorem qH6(l:List Mark)(hl:l.length<1000000000000)(t:Int)(g:FuncId)(hg:∀x∈l,Contract Tryz.prog g [.agg (qfa x),.int .i64 t] (.ret (.int .i64 (x.minute-t))))(ha:l.Pairwise fun x y=>x.minute<y.minute):
  Contract Tryz.prog 315 [.sl (l.map qfa),.int .i64 t,.clo (.func g) [] []] (.ret (.tup [.int .i64 (l.findIdx fun x=>decide (t≤x.minute):Nat),.bool (decide (l[l.findIdx fun x=>decide (t≤x.minute)]?.map (·.minute)=some t))])):=by
 refine zT mix Tryz.func315 Tryz.ntmps315 Tryz.results315 rfl rfl rfl ?_;simp only[qab,Nat.reduceAdd]
 repeat'(first|refine zQ ?_|fail)
 refine qib (fun x:Nat×Nat=>x.2-x.1) (fun x=>⟨[(9,.int .i64 (x.1:Nat)),(10,.int .i64 (x.2:Nat)),(8,.int .i64 l.length),(0,.sl (l.map qfa)),(1,.int .i64 t),(2,.clo (.func g) [] [])],[],32,49⟩) (fun x=>(x.1≤x.2∧x.2≤l.length)∧(∀k (hk:k<l.length),k<x.1→l[k].minute<t)∧∀k (hk:k<l.length),x.2≤k→t≤l[k].minute) (0,l.length)
  (qaa (nx:=32) (k:=0) (ns:=[]) (ks:=[9,10,8,0,1,2]) [] rfl (by simp) (by kernel_rfl)) ⟨by simp,fun k hk h=>absurd h (by simp),fun k hk h=>absurd hk (by simp at h;omega)⟩ ?_
 rintro⟨x,y⟩ ⟨⟨hxy,hyl⟩,hlo,hhi⟩
 simp only at hxy hyl hlo hhi
 by_cases hlt0:x<y
 ·have hm:(((x:Int)+y)/2).toNat=(x+y)/2:=by omega
  have hml:(x+y)/2<l.length:=by omega
  have hc:=hg l[(x+y)/2] (List.getElem_mem _)
  repeat'(first|((with_reducible apply qsx);rfl;rfl;omega)|((with_reducible apply qsv);rfl;rfl;rfl;omega)|((with_reducible apply qsw);rfl;rfl;omega)|refine zS ?_|refine zA ?_|(refine zI ?_;intro hlt)|(refine zC ?_ ?_<;>first|intro h|simp)|(refine zG ?_ ?_<;>first|intro h|simp)|refine zE ?_|fail)
  all_goals try exact absurd hlt0 (by omega)
  all_goals simp only[hm]
  refine qn6 (args:=[.tmp 28,.tmp 29]) rfl rfl hc rfl ?_
  repeat'(first|refine zQ ?_|(refine zC ?_ ?_<;>first|intro h|simp)|fail)
  ·refine⟨((x+y)/2+1,y),by simp;omega,⟨⟨by simp;omega,hyl⟩,fun k hk h=>?_,hhi⟩,?_⟩
   ·have:l[k].minute≤l[(x+y)/2].minute:=by
     rcases Nat.lt_or_ge k ((x+y)/2)with h'|h'
     ·have:=List.pairwise_iff_getElem.1 ha k ((x+y)/2) hk hml h';omega
     ·have e:k=(x+y)/2:=by simp at h;omega
      subst e;omega
    omega
   ·simp only
    rw[show((((x+y)/2+1:Nat)):Int)=((x:Int)+y)/2+1 by omega]
    exact qaa (nx:=32) (k:=0) (ns:=[]) (ks:=[9,10,8,0,1,2]) [] rfl (by simp) (by kernel_rfl)
  ·refine⟨(x,(x+y)/2),by simp;omega,⟨⟨by simp;omega,by simp;omega⟩,hlo,fun k hk h=>?_⟩,?_⟩
   ·have:l[(x+y)/2].minute≤l[k].minute:=by
     rcases Nat.lt_or_ge ((x+y)/2) k with h'|h'
     ·have:=List.pairwise_iff_getElem.1 ha ((x+y)/2) k hml hk h';omega
     ·have e:k=(x+y)/2:=by simp at h;omega
      subst e;omega
    omega
   ·simp only
    rw[show((((x+y)/2:Nat)):Int)=((x:Int)+y)/2 by omega]
    exact qaa (nx:=32) (k:=0) (ns:=[]) (ks:=[9,10,8,0,1,2]) [] rfl (by simp) (by kernel_rfl)
 ·obtain rfl:x=y:=by omega
  have hix:(l.findIdx fun z=>decide (t≤z.minute))=x:=by
   rcases Nat.lt_or_ge x l.length with hx|hx
   ·exact(List.findIdx_eq hx).2 ⟨decide_eq_true (hhi x hx (Nat.le_refl x)),fun j hj=>by have:=hlo j (by omega) hj;simp;omega⟩
   ·obtain rfl:x=l.length:=by omega
    refine List.findIdx_eq_length.2 fun z hz=>?_
    obtain⟨j,hj,rfl⟩:=List.mem_iff_getElem.1 hz
    have:=hlo j hj hj
    simp;omega
  rw[hix]
  rcases Nat.lt_or_ge x l.length with hx|hx
  ·rw[List.getElem?_eq_getElem hx]
   have hc:=hg l[x] (List.getElem_mem _)
   rw[show decide (Option.map (fun z:Mark=>z.minute) (some l[x])=some t)=decide (l[x].minute-t=0)from decide_eq_decide.2 (by simp;omega)]
   repeat'(first|refine zQ ?_|(refine zI ?_;intro hlt)|(refine zC ?_ ?_<;>first|intro h|simp)|(refine zG ?_ ?_<;>first|intro h|simp)|refine zE ?_|fail)
   all_goals try exact absurd hx (by omega)
   all_goals try exact absurd hlt0 (by omega)
   refine qn6 (args:=[.tmp 44,.tmp 45]) rfl rfl hc rfl ?_
   repeat'(first|refine zA ?_|refine zE ?_|fail)
   all_goals first|rfl|trace_state
  ·rw[List.getElem?_eq_none hx,show decide (Option.map (fun z:Mark=>z.minute) none=some t)=false by simp]
   repeat'(first|refine zQ ?_|(refine zI ?_;intro hlt)|(refine zC ?_ ?_<;>first|intro h|simp)|(refine zG ?_ ?_<;>first|intro h|simp)|refine zE ?_|fail)
   all_goals first|exact absurd hlt0 (by omega)|exact absurd hx (by omega)|rfl|trace_state
theorem qH7(l:List Gauge)(hl:l.length<1000000000000)(t:Int)(g:FuncId)(hg:∀x∈l,Contract Tryz.prog g [.agg (qax x),.int .i64 t] (.ret (.int .i64 (x.x-t))))(ha:l.Pairwise fun x y=>x.x<y.x):
  Contract Tryz.prog 298 [.sl (l.map qax),.int .i64 t,.clo (.func g) [] []] (.ret (.tup [.int .i64 (l.findIdx fun x=>decide (t≤x.x):Nat),.bool (decide (l[l.findIdx fun x=>decide (t≤x.x)]?.map (·.x)=some t))])):=by
 refine zT mix Tryz.func298 Tryz.ntmps298 Tryz.results298 rfl rfl rfl ?_;simp only[qab,Nat.reduceAdd]
 repeat'(first|refine zQ ?_|fail)
 refine qib (fun x:Nat×Nat=>x.2-x.1) (fun x=>⟨[(9,.int .i64 (x.1:Nat)),(10,.int .i64 (x.2:Nat)),(8,.int .i64 l.length),(0,.sl (l.map qax)),(1,.int .i64 t),(2,.clo (.func g) [] [])],[],32,49⟩) (fun x=>(x.1≤x.2∧x.2≤l.length)∧(∀k (hk:k<l.length),k<x.1→l[k].x<t)∧∀k (hk:k<l.length),x.2≤k→t≤l[k].x) (0,l.length)
  (qaa (nx:=32) (k:=0) (ns:=[]) (ks:=[9,10,8,0,1,2]) [] rfl (by simp) (by kernel_rfl)) ⟨by simp,fun k hk h=>absurd h (by simp),fun k hk h=>absurd hk (by simp at h;omega)⟩ ?_
 rintro⟨x,y⟩ ⟨⟨hxy,hyl⟩,hlo,hhi⟩
 simp only at hxy hyl hlo hhi
 by_cases hlt0:x<y
 ·have hm:(((x:Int)+y)/2).toNat=(x+y)/2:=by omega
  have hml:(x+y)/2<l.length:=by omega
  have hc:=hg l[(x+y)/2] (List.getElem_mem _)
  repeat'(first|((with_reducible apply qsx);rfl;rfl;omega)|((with_reducible apply qsv);rfl;rfl;rfl;omega)|((with_reducible apply qsw);rfl;rfl;omega)|refine zS ?_|refine zA ?_|(refine zI ?_;intro hlt)|(refine zC ?_ ?_<;>first|intro h|simp)|(refine zG ?_ ?_<;>first|intro h|simp)|refine zE ?_|fail)
  all_goals try exact absurd hlt0 (by omega)
  all_goals simp only[hm]
  refine qn6 (args:=[.tmp 28,.tmp 29]) rfl rfl hc rfl ?_
  repeat'(first|refine zQ ?_|(refine zC ?_ ?_<;>first|intro h|simp)|fail)
  ·refine⟨((x+y)/2+1,y),by simp;omega,⟨⟨by simp;omega,hyl⟩,fun k hk h=>?_,hhi⟩,?_⟩
   ·have:l[k].x≤l[(x+y)/2].x:=by
     rcases Nat.lt_or_ge k ((x+y)/2)with h'|h'
     ·have:=List.pairwise_iff_getElem.1 ha k ((x+y)/2) hk hml h';omega
     ·have e:k=(x+y)/2:=by simp at h;omega
      subst e;omega
    omega
   ·simp only
    rw[show((((x+y)/2+1:Nat)):Int)=((x:Int)+y)/2+1 by omega]
    exact qaa (nx:=32) (k:=0) (ns:=[]) (ks:=[9,10,8,0,1,2]) [] rfl (by simp) (by kernel_rfl)
  ·refine⟨(x,(x+y)/2),by simp;omega,⟨⟨by simp;omega,by simp;omega⟩,hlo,fun k hk h=>?_⟩,?_⟩
   ·have:l[(x+y)/2].x≤l[k].x:=by
     rcases Nat.lt_or_ge ((x+y)/2) k with h'|h'
     ·have:=List.pairwise_iff_getElem.1 ha ((x+y)/2) k hml hk h';omega
     ·have e:k=(x+y)/2:=by simp at h;omega
      subst e;omega
    omega
   ·simp only
    rw[show((((x+y)/2:Nat)):Int)=((x:Int)+y)/2 by omega]
    exact qaa (nx:=32) (k:=0) (ns:=[]) (ks:=[9,10,8,0,1,2]) [] rfl (by simp) (by kernel_rfl)
 ·obtain rfl:x=y:=by omega
  have hix:(l.findIdx fun z=>decide (t≤z.x))=x:=by
   rcases Nat.lt_or_ge x l.length with hx|hx
   ·exact(List.findIdx_eq hx).2 ⟨decide_eq_true (hhi x hx (Nat.le_refl x)),fun j hj=>by have:=hlo j (by omega) hj;simp;omega⟩
   ·obtain rfl:x=l.length:=by omega
    refine List.findIdx_eq_length.2 fun z hz=>?_
    obtain⟨j,hj,rfl⟩:=List.mem_iff_getElem.1 hz
    have:=hlo j hj hj
    simp;omega
  rw[hix]
  rcases Nat.lt_or_ge x l.length with hx|hx
  ·rw[List.getElem?_eq_getElem hx]
   have hc:=hg l[x] (List.getElem_mem _)
   rw[show decide (Option.map (fun z:Gauge=>z.x) (some l[x])=some t)=decide (l[x].x-t=0)from decide_eq_decide.2 (by simp;omega)]
   repeat'(first|refine zQ ?_|(refine zI ?_;intro hlt)|(refine zC ?_ ?_<;>first|intro h|simp)|(refine zG ?_ ?_<;>first|intro h|simp)|refine zE ?_|fail)
   all_goals try exact absurd hx (by omega)
   all_goals try exact absurd hlt0 (by omega)
   refine qn6 (args:=[.tmp 44,.tmp 45]) rfl rfl hc rfl ?_
   repeat'(first|refine zA ?_|refine zE ?_|fail)
   all_goals first|rfl|trace_state
  ·rw[List.getElem?_eq_none hx,show decide (Option.map (fun z:Gauge=>z.x) none=some t)=false by simp]
   repeat'(first|refine zQ ?_|(refine zI ?_;intro hlt)|(refine zC ?_ ?_<;>first|intro h|simp)|(refine zG ?_ ?_<;>first|intro h|simp)|refine zE ?_|fail)
   all_goals first|exact absurd hlt0 (by omega)|exact absurd hx (by omega)|rfl|trace_state
end Go.Pv.Soil

import Derived.Test.YtfklpkgdobdbpaaGreatCAT
/- Part of the proofs over YtfklpkgdobdbpaaGreat: S52. -/
set_option linter.unusedVariables false
set_option linter.unusedSimpArgs false
set_option linter.unnecessarySimpa false
open Go Go.Proofs Go.Pv
set_option maxHeartbeats 8000000
set_option maxRecDepth 100000
set_option linter.unusedSimpArgs false
set_option linter.unusedVariables false
namespace Go.Pv.Soil
def qdM(g:Ground)(i:Nat):List Share:=(g.soils.take i).map fun s=>⟨s.name,0⟩
theorem qmc(g:Ground){i:Nat}(h:i≤g.soils.length):(qdM g i).length=i:=by simp[qdM];omega
theorem qkU(g:Ground){i:Nat}(h:i<g.soils.length):qdM g (i+1)=qdM g i++[⟨g.soils[i].name,0⟩]:=by
 simp only[qdM]
 rw[List.take_succ_eq_append_getElem h]
 simp only[List.map_append,List.map_cons,List.map_nil]
theorem qmd(g:Ground)(m a:Grid):qdM g g.soils.length=qaT g m a 0:=by simp[qdM,qaT]
theorem qe0{g:Ground}(hg:OkG g):g.soils.length≤8:=by
 have h:=hg.soils
 unfold qdS at h
 split at h
 ·omega
 ·split at h<;>omega
theorem c55(g:Ground)(hg:OkG g)(hsl:g.soils.length<1000000000000)(m:Grid)(hm:OkGrid m)(a:Grid)(ha:OkGrid a)(hla:a.levels.length=m.levels.length):
  Contract Tryz.prog 126 [.agg (qam g),.agg (encGrid m),.agg (encGrid a)] (.ret (.fr 2 ((qaT g m a m.levels.length).map qa5))):=by
 have hs:=hm.small
 have h8:=qe0 hg
 refine zT mix Tryz.func126 Tryz.ntmps126 Tryz.results126 rfl rfl rfl ?_;simp only[qac,Nat.reduceAdd]
 repeat'(first|refine zQ ?_|fail)
 refine qaf g.soils.length (fun i=>⟨[(7,.os 3 0 (qdM g i).length),(8,.int .i64 i),(3,.op 0 0 0),(4,.op 1 0 0),(5,.op 2 0 0)],[(3,⟨2,true,(qdM g i).map qa5⟩),(0,⟨2,true,[qam g]⟩),(1,⟨6,true,[encGrid m]⟩),(2,⟨6,true,[encGrid a]⟩)],32,104⟩) (fun _=>True)
  (qaa (nx:=32) (k:=2) (ns:=[(7,3)]) (ks:=[8,3,4,5]) [(0,0),(32,1),(64,2)] rfl (by simp;rfl) (by kernel_rfl)) trivial ?_
 intro i hi _
 by_cases hlt:i<g.soils.length
 ·have hnl:=qmc g hi
  repeat'(first|refine zQ ?_|(refine zI ?_;intro hlt)|(refine zC ?_ ?_<;>first|intro h|simp)|fail)
  all_goals try exact absurd hlt (by omega)
  refine qaE (f:=qa5) (a:=⟨_,_⟩) (l:=qdM g i) qoN rfl rfl rfl rfl rfl rfl (by kernel_rfl) (by kernel_rfl) (by omega) rfl ?_
  repeat'(first|refine zQ ?_|fail)
  have e:=qkU g hlt
  have el:(qdM g i).length+1=(qdM g (i+1)).length:=by rw[e];simp
  rw[←e,el]
  exact⟨hlt,trivial,qaa (nx:=32) (k:=1) (ns:=[]) (ks:=[7,8,3,4,5]) [(3,3),(0,0),(1,1),(2,2)] rfl (by simp) (by kernel_rfl)⟩
 ·have e:i=g.soils.length:=by omega
  subst e
  repeat'(first|refine zQ ?_|(refine zI ?_;intro hlt)|(refine zC ?_ ?_<;>first|intro h|simp)|fail)
  all_goals try exact absurd hlt (by omega)
  rw[qmd g m a]
  refine qaf m.levels.length (fun i=>⟨[(9,.int .i64 i),(7,.os 3 0 (qaT g m a i).length),(3,.op 0 0 0),(4,.op 1 0 0),(5,.op 2 0 0)],[(3,⟨2,true,(qaT g m a i).map qa5⟩),(0,⟨2,true,[qam g]⟩),(1,⟨6,true,[encGrid m]⟩),(2,⟨6,true,[encGrid a]⟩)],32,104⟩) (fun _=>True)
   (qaa (nx:=32) (k:=1) (ns:=[]) (ks:=[9,7,3,4,5]) [(3,3),(0,0),(1,1),(2,2)] rfl (by simp) (by kernel_rfl)) trivial ?_
  intro i hi2 _
  by_cases hlt2:i<m.levels.length
  ·have hlia:i<a.levels.length:=by omega
   have em:=qbu hlt2
   have ea:=qbu hlia
   have hcs:=qdw g m a i
   have hVB:=qh3 hg hm ha hla i hi2
   have c1:Contract Tryz.prog 62 [.agg (encGrid m),.int .i64 i] (.ret (.bool (!decide (lv m.levels i=30000)))):=qCZ m (i:Int) (by omega) (by omega)
   have c2:Contract Tryz.prog 62 [.agg (encGrid a),.int .i64 i] (.ret (.bool (!decide (lv a.levels i=30000)))):=qCZ a (i:Int) (by omega) (by omega)
   have c103i:=qBX m hm i hlt2
   have h51:=c51 g hg (qap m i) (qda hm hlt2) m.levels[i] a.levels[i]
   have hnx:qaT g m a (i+1)=if lv m.levels i≠30000∧lv a.levels i≠30000 then qh0 g m.side (qaT g m a i) (qco g m a i) (qco g m a i).length else qaT g m a i:=rfl
   have hca:qco g m a i=qaD g (qap m i) m.levels[i] a.levels[i]:=by unfold qco;rw[em,ea]
   by_cases hk:lv m.levels i≠30000∧lv a.levels i≠30000
   ·rw[if_pos hk]at hnx
    rw[decide_eq_false hk.1]at c1
    rw[decide_eq_false hk.2]at c2
    have hcp:=qiL hg hm ha hla hlt2 hk
    have hcl:(qco g m a i).length≤12:=qp8 hg _ _ _
    have hcq:∀q∈qco g m a i,0≤qa9 g.soils q.soil∧(qa9 g.soils q.soil).toNat<g.soils.length:=fun q hq=>by
     have:=qfo hg hq
     exact⟨this.2.2.2.1,this.2.2.2.2⟩
    have hac:=fun j=>qh2 g m.side (qaT g m a i) (qco g m a i) j
    have hav:=fun j=>qnd (g:=g) (C:=qco g m a i) hm.bds.2.1 hVB hcp j
    have has:=fun{j} h=>qh1 g m.side (qaT g m a i) (C:=qco g m a i) (j:=j) h
    rw[←hca]at h51
    repeat'(first|((with_reducible apply qdC);rfl;(exact h51);(exact qhO);rfl)|refine zQ ?_|refine zF c1 ?_|refine zF c2 ?_|refine zF c103i ?_|(refine zI ?_;intro hlt)|(refine zC ?_ ?_<;>first|intro h|simp)|fail)
    all_goals try exact absurd hlt2 (by omega)
    clear hca h51
    generalize qco g m a i=C at*
    generalize qaT g m a i=L at*
    refine qaf C.length (fun j=>⟨[(11,.int .i64 j),(10,.os 4 0 C.length),(7,.os 3 0 L.length),(9,.int .i64 i),(3,.op 0 0 0),(4,.op 1 0 0),(5,.op 2 0 0)],[(4,⟨3,true,C.map qbt⟩),(3,⟨2,true,(qh0 g m.side L C j).map qa5⟩),(0,⟨2,true,[qam g]⟩),(1,⟨6,true,[encGrid m]⟩),(2,⟨6,true,[encGrid a]⟩)],32,104⟩) (fun _=>True)
     (qaa (nx:=32) (k:=1) (ns:=[]) (ks:=[11,10,7,9,3,4,5]) [(960,4),(3,3),(0,0),(1,1),(2,2)] rfl (by simp) (by kernel_rfl)) trivial ?_
    intro j hj _
    by_cases hlj:j<C.length
    ·have hq:=hcq C[j] (List.getElem_mem hlj)
     have hd:=hcp C[j] (List.getElem_mem hlj)
     have hv:=qvW hd hm.bds.2.1
     obtain⟨k,ek⟩:=Int.eq_ofNat_of_zero_le hq.1
     have hkk:(qa9 g.soils C[j].soil).toNat=k:=by omega
     have hacj:=hac j
     have hkL:k<(qh0 g m.side L C j).length:=by omega
     have hvk:=hav j k hkL
     have hsj:=has hlj
     rw[hkk,qnc hkL]at hsj
     have h84:Contract Tryz.prog 179 [.sl (g.soils.map qaC),.str C[j].soil] (.ret (.int .i64 k)):=by
      have:=c84 g.soils hsl C[j].soil
      rwa[ek]at this
     repeat'(first|refine zQ ?_|refine zF h84 ?_|(refine zI ?_;intro hlt)|(refine zC ?_ ?_<;>first|intro h|simp)|fail)
     all_goals try exact absurd hlj (by omega)
     refine qaA (f:=qa5) (l:=qh0 g m.side L C j) (a:=⟨(qh0 g m.side L C j)[k].soil,(qh0 g m.side L C j)[k].vol+(C[j].top-C[j].bottom)*m.side*m.side⟩) rfl rfl rfl hkL rfl rfl rfl rfl (zL rfl) rfl ?_
     repeat'(first|refine zQ ?_|fail)
     refine⟨‹j<C.length›,trivial,?_⟩
     rw[hsj]
     exact qaa (nx:=32) (k:=1) (ns:=[]) (ks:=[11,10,7,9,3,4,5]) [(4,4),(3,3),(0,0),(1,1),(2,2)] rfl (by simp) (by kernel_rfl)
    ·have e:j=C.length:=by omega
     repeat'(first|refine zQ ?_|(refine zI ?_;intro hlt)|(refine zC ?_ ?_<;>first|intro h|simp)|fail)
     all_goals try exact absurd hlj (by omega)
     refine⟨hlt2,trivial,?_⟩
     rw[hnx,←e,hac j]
     exact qaa (nx:=32) (k:=1) (ns:=[]) (ks:=[9,7,3,4,5]) [(3,3),(0,0),(1,1),(2,2)] rfl (by simp) (by kernel_rfl)
   ·rw[if_neg hk]at hnx
    repeat'(first|refine zQ ?_|refine zF c1 ?_|refine zF c2 ?_|refine zF c103i ?_|(refine zI ?_;intro hlt)|(refine zC ?_ ?_<;>first|intro h|simp)|(refine zG ?_ ?_<;>first|intro h|simp)|fail)
    all_goals first
     |exact absurd hlt2 (by omega)
     |exact absurd (And.intro ‹¬lv m.levels i=30000› ‹¬lv a.levels i=30000›) hk
     |(refine⟨‹i<m.levels.length›,trivial,?_⟩;rw[hnx];exact qaa (nx:=32) (k:=1) (ns:=[]) (ks:=[9,7,3,4,5]) [(3,3),(0,0),(1,1),(2,2)] rfl (by simp) (by kernel_rfl))
     |trace_state
  ·have e:i=m.levels.length:=by omega
   repeat'(first|refine zQ ?_|(refine zC ?_ ?_<;>first|intro h|simp)|fail)
   all_goals try exact absurd hlt2 (by omega)
   rw[←e]
   exact qg5 rfl rfl rfl rfl
end Go.Pv.Soil

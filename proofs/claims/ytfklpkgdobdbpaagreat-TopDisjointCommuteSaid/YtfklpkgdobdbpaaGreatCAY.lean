import Derived.Test.YtfklpkgdobdbpaaGreatCAW
import Derived.Test.YtfklpkgdobdbpaaGreatCAX
/- Part of the proofs over YtfklpkgdobdbpaaGreat: S53. -/
set_option linter.unusedVariables false
set_option linter.unusedSimpArgs false
set_option linter.unnecessarySimpa false
open Go Go.Proofs Go.Pv
set_option maxHeartbeats 8000000
set_option maxRecDepth 100000
set_option linter.unusedSimpArgs false
set_option linter.unusedVariables false
namespace Go.Pv.Soil
theorem qC0(g:Ground)(hsl:g.soils.length<1000000000000)(hbl:g.borings.length<1000000000000)(m a:Grid)(hl:m.levels.length<1000000000000)(hla':a.levels.length<1000000000000)(hge:qa3 g [m,a]=0):
  Contract Tryz.prog 191 [.agg (qam g),.agg (encGrid m),.agg (encGrid a)] (.ret (.tup [.fr 2 ((qaT g m a m.levels.length).map qa5),.int .i64 0])):=by
 have h93:=c93 g hsl hbl [m,a] (by simp) (by intro x hx;simp at hx;rcases hx with rfl|rfl<;>assumption)
 rw[hge]at h93
 obtain⟨h1,h2,h3,h4⟩:=qyd hge
 have hg:=okG h1
 have hm:=qfx h2
 have ha:=qfx h3
 have hla:=qoO hm ha h4
 have hs:=hm.small
 have h8:=qe0 hg
 refine zT mix Tryz.func191 Tryz.ntmps191 Tryz.results191 rfl rfl rfl ?_;simp only[qac,Nat.reduceAdd]
 repeat'(first|refine zQ ?_|refine zF h93 ?_|fail)
 all_goals try exact absurd rfl ‹_›
 refine qaf g.soils.length (fun i=>⟨[(9,.os 3 0 (qdM g i).length),(28,.int .i64 i),(27,.int .i64 g.soils.length),(26,.sl (g.soils.map qaC)),(3,.op 0 0 0),(4,.op 1 0 0),(5,.op 2 0 0)],[(3,⟨2,true,(qdM g i).map qa5⟩),(0,⟨2,true,[qam g]⟩),(1,⟨6,true,[encGrid m]⟩),(2,⟨6,true,[encGrid a]⟩)],32,102⟩) (fun _=>True)
  (qaa (nx:=32) (k:=2) (ns:=[(9,3)]) (ks:=[28,27,26,3,4,5]) [(0,0),(32,1),(64,2)] rfl (by simp;rfl) (by kernel_rfl)) trivial ?_
 intro i hi _
 by_cases hlt:i<g.soils.length
 ·have hnl:=qmc g hi
  repeat'(first|refine zQ ?_|(refine zI ?_;intro hlt)|(refine zC ?_ ?_<;>first|intro h|simp)|fail)
  all_goals try exact absurd hlt (by omega)
  refine qaE (f:=qa5) (a:=⟨_,_⟩) (l:=qdM g i) qoN rfl rfl rfl rfl rfl rfl (by kernel_rfl) (by kernel_rfl) (by omega) rfl ?_
  repeat'(first|refine zQ ?_|fail)
  have e:=qkU g hlt
  have el:(qdM g i).length+1=(qdM g (i+1)).length:=by rw[e];simp
  rw[←e,el]
  exact⟨hlt,trivial,qaa (nx:=32) (k:=1) (ns:=[]) (ks:=[9,28,27,26,3,4,5]) [(3,3),(0,0),(1,1),(2,2)] rfl (by simp) (by kernel_rfl)⟩
 ·have e:i=g.soils.length:=by omega
  subst e
  repeat'(first|refine zQ ?_|(refine zI ?_;intro hlt)|(refine zC ?_ ?_<;>first|intro h|simp)|fail)
  all_goals try exact absurd hlt (by omega)
  rw[qmd g m a]
  refine qaf m.levels.length (fun i=>⟨[(42,.int .i64 i),(41,.int .i64 m.levels.length),(40,.sl (m.levels.map qak)),(9,.os 3 0 (qaT g m a i).length),(3,.op 0 0 0),(4,.op 1 0 0),(5,.op 2 0 0)],[(3,⟨2,true,(qaT g m a i).map qa5⟩),(0,⟨2,true,[qam g]⟩),(1,⟨6,true,[encGrid m]⟩),(2,⟨6,true,[encGrid a]⟩)],32,102⟩) (fun _=>True)
   (qaa (nx:=32) (k:=1) (ns:=[]) (ks:=[42,41,40,9,3,4,5]) [(3,3),(0,0),(1,1),(2,2)] rfl (by simp) (by kernel_rfl)) trivial ?_
  intro i hi2 _
  by_cases hlt2:i<m.levels.length
  ·have hlia:i<a.levels.length:=by omega
   have em:=qbu hlt2
   have ea:=qbu hlia
   have hcs:=qdw g m a i
   have hVB:=qh3 hg hm ha hla i hi2
   have c101i:=qEQ m hm i hlt2 h2
   have h97:=c97 g hg (qap m i) m.levels[i] a.levels[i]
   have hnx:qaT g m a (i+1)=if lv m.levels i≠30000∧lv a.levels i≠30000 then qh0 g m.side (qaT g m a i) (qco g m a i) (qco g m a i).length else qaT g m a i:=rfl
   have hca:qco g m a i=qaD g (qap m i) m.levels[i] a.levels[i]:=by unfold qco;rw[em,ea]
   have hskip:(m.levels[i]=30000∨a.levels[i]=30000∨m.levels[i]≤a.levels[i])→qaT g m a (i+1)=qaT g m a i:=fun h=>by
    rw[hnx]
    split
    ·rename_i hk
     rw[em,ea]at hk
     rw[hca,qvV hg (by omega)]
     rfl
    ·rfl
   rw[←hca]at h97
   have hreal:¬(m.levels[i]=30000∨a.levels[i]=30000)→qaT g m a (i+1)=qh0 g m.side (qaT g m a i) (qco g m a i) (qco g m a i).length:=fun h=>by
    rw[hnx,if_pos (by rw[em,ea];omega)]
   have hcp':¬(m.levels[i]=30000∨a.levels[i]=30000)→∀q∈qco g m a i,0≤q.top-q.bottom∧q.top-q.bottom≤40000:=fun h=>qiL hg hm ha hla hlt2 (by rw[em,ea];omega)
   have hcq:∀q∈qco g m a i,0≤qa9 g.soils q.soil∧(qa9 g.soils q.soil).toNat<g.soils.length:=fun q hq=>by
    have:=qfo hg hq
    exact⟨this.2.2.2.1,this.2.2.2.2⟩
   have hcl:(qco g m a i).length≤12:=qp8 hg _ _ _
   repeat'(first|((with_reducible apply qdC);rfl;(exact h97);(exact qhO);rfl)|refine zQ ?_|refine zF c101i ?_|(refine zI ?_;intro hlt)|(refine zC ?_ ?_<;>first|intro h|simp)|(refine zG ?_ ?_<;>first|intro h|simp)|fail)
   all_goals try exact absurd hlt2 (by omega)
   all_goals try(refine⟨‹i<m.levels.length›,trivial,?_⟩;rw[hskip (by omega)];exact qaa (nx:=32) (k:=1) (ns:=[]) (ks:=[42,41,40,9,3,4,5]) [(3,3),(0,0),(1,1),(2,2)] rfl (by simp) (by kernel_rfl))
   have hcp:=hcp' (by omega)
   have hre:=hreal (by omega)
   have hac:=fun j=>qh2 g m.side (qaT g m a i) (qco g m a i) j
   have hav:=fun j=>qnd (g:=g) (C:=qco g m a i) hm.bds.2.1 hVB hcp j
   have has:=fun{j} h=>qh1 g m.side (qaT g m a i) (C:=qco g m a i) (j:=j) h
   clear hca h97 hskip hreal hcp' hnx
   generalize qco g m a i=C at*
   generalize qaT g m a i=L at*
   refine qaf C.length (fun j=>⟨[(72,.int .i64 j),(71,.int .i64 C.length),(70,.os 4 0 C.length),(9,.os 3 0 L.length),(42,.int .i64 i),(41,.int .i64 m.levels.length),(40,.sl (m.levels.map qak)),(3,.op 0 0 0),(4,.op 1 0 0),(5,.op 2 0 0)],[(4,⟨3,true,C.map qbt⟩),(3,⟨2,true,(qh0 g m.side L C j).map qa5⟩),(0,⟨2,true,[qam g]⟩),(1,⟨6,true,[encGrid m]⟩),(2,⟨6,true,[encGrid a]⟩)],32,102⟩) (fun _=>True)
    (qaa (nx:=32) (k:=1) (ns:=[]) (ks:=[72,71,70,9,42,41,40,3,4,5]) [(992,4),(3,3),(0,0),(1,1),(2,2)] rfl (by simp) (by kernel_rfl)) trivial ?_
   intro j hj _
   by_cases hlj:j<C.length
   ·have hq:=hcq C[j] (List.getElem_mem hlj)
    have hd:=hcp C[j] (List.getElem_mem hlj)
    have hv:=qvW hd hm.bds.2.1
    have hv4:=hv.2.2.2
    obtain⟨k,ek⟩:=Int.eq_ofNat_of_zero_le hq.1
    have hkk:(qa9 g.soils C[j].soil).toNat=k:=by omega
    have hacj:=hac j
    have hkL:k<(qh0 g m.side L C j).length:=by omega
    have hvk:=hav j k hkL
    have hsj:=has hlj
    rw[hkk,qnc hkL,←hv4]at hsj
    have h102:Contract Tryz.prog 228 [.sl (g.soils.map qaC),.str C[j].soil] (.ret (.int .i64 k)):=by
     have:=qFG g.soils hsl C[j].soil
     rwa[ek]at this
    repeat'(first|refine zQ ?_|refine zF h102 ?_|(refine zI ?_;intro hlt)|(refine zC ?_ ?_<;>first|intro h|simp)|fail)
    all_goals try exact absurd hlj (by omega)
    all_goals try simp only[Nat.reduceAdd]
    refine qaA (f:=qa5) (l:=qh0 g m.side L C j) (a:=⟨(qh0 g m.side L C j)[k].soil,(qh0 g m.side L C j)[k].vol+m.side*m.side*(C[j].top-C[j].bottom)⟩) rfl rfl rfl hkL rfl rfl rfl rfl (zL rfl) rfl ?_
    repeat'(first|refine zQ ?_|fail)
    refine⟨‹j<C.length›,trivial,?_⟩
    rw[hsj]
    exact qaa (nx:=32) (k:=1) (ns:=[]) (ks:=[72,71,70,9,42,41,40,3,4,5]) [(4,4),(3,3),(0,0),(1,1),(2,2)] rfl (by simp) (by kernel_rfl)
   ·have e:j=C.length:=by omega
    repeat'(first|refine zQ ?_|(refine zI ?_;intro hlt)|(refine zC ?_ ?_<;>first|intro h|simp)|fail)
    all_goals try exact absurd hlj (by omega)
    refine⟨hlt2,trivial,?_⟩
    rw[hre,←e,hac j]
    exact qaa (nx:=32) (k:=1) (ns:=[]) (ks:=[42,41,40,9,3,4,5]) [(3,3),(0,0),(1,1),(2,2)] rfl (by simp) (by kernel_rfl)
  ·have e:i=m.levels.length:=by omega
   repeat'(first|refine zQ ?_|(refine zI ?_;intro hlt)|(refine zC ?_ ?_<;>first|intro h|simp)|(refine zG ?_ ?_<;>first|intro h|simp)|fail)
   all_goals try exact absurd hlt2 (by omega)
   rw[←e]
   exact qbh (qmN rfl (by simp) rfl rfl rfl)
end Go.Pv.Soil

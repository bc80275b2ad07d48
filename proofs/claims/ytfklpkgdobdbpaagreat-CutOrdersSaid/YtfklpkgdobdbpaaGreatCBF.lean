import Derived.Test.YtfklpkgdobdbpaaGreatCBE
/- Part of the proofs over YtfklpkgdobdbpaaGreat: S52, S53. -/
set_option linter.unusedVariables false
set_option linter.unusedSimpArgs false
set_option linter.unnecessarySimpa false
open Go Go.Proofs Go.Pv
set_option maxHeartbeats 8000000
set_option maxRecDepth 100000
set_option linter.unusedSimpArgs false
set_option linter.unusedVariables false
namespace Go.Pv.Soil
def qd1(g:Ground)(i:Nat):List Share:=(g.soils.take i).map fun s=>⟨s.name,0⟩
theorem qng(g:Ground){i:Nat}(h:i≤g.soils.length):(qd1 g i).length=i:=by simp[qd1];omega
theorem qlF(g:Ground){i:Nat}(h:i<g.soils.length):qd1 g (i+1)=qd1 g i++[⟨g.soils[i].name,0⟩]:=by
 simp only[qd1]
 rw[List.take_succ_eq_append_getElem h]
 simp only[List.map_append,List.map_cons,List.map_nil]
theorem qnh(g:Ground)(m a:Grid):qd1 g g.soils.length=qaN g m a 0:=by simp[qd1,qaN]
theorem qfs{g:Ground}(hg:OkG g):g.soils.length≤8:=by
 have h:=hg.soils
 unfold qcG at h
 split at h
 ·omega
 ·split at h<;>omega
theorem c55(g:Ground)(hg:OkG g)(hsl:g.soils.length<1000000000000)(m:Grid)(hm:OkGrid m)(a:Grid)(ha:OkGrid a)(hla:a.levels.length=m.levels.length):
  Contract Tryz.prog 126 [.agg (qam g),.agg (qag m),.agg (qag a)] (.ret (.fr 2 ((qaN g m a m.levels.length).map qbJ))):=by
 have hs:=hm.small
 have h8:=qfs hg
 refine zT mix Tryz.func126 Tryz.ntmps126 Tryz.results126 rfl rfl rfl ?_;simp only[qab,Nat.reduceAdd]
 repeat'(first|refine zQ ?_|fail)
 refine qad g.soils.length (fun i=>⟨[(7,.os 3 0 (qd1 g i).length),(8,.int .i64 i),(3,.op 0 0 0),(4,.op 1 0 0),(5,.op 2 0 0)],[(3,⟨2,true,(qd1 g i).map qbJ⟩),(0,⟨2,true,[qam g]⟩),(1,⟨6,true,[qag m]⟩),(2,⟨6,true,[qag a]⟩)],32,104⟩) (fun _=>True)
  (qaa (nx:=32) (k:=2) (ns:=[(7,3)]) (ks:=[8,3,4,5]) [(0,0),(32,1),(64,2)] rfl (by simp;rfl) (by kernel_rfl)) trivial ?_
 intro i hi _
 by_cases hlt:i<g.soils.length
 ·have hnl:=qng g hi
  repeat'(first|refine zQ ?_|(refine zI ?_;intro hlt)|(refine zC ?_ ?_<;>first|intro h|simp)|fail)
  all_goals try exact absurd hlt (by omega)
  refine qaH (f:=qbJ) (a:=⟨_,_⟩) (l:=qd1 g i) qpS rfl rfl rfl rfl rfl rfl (by kernel_rfl) (by kernel_rfl) (by omega) rfl ?_
  repeat'(first|refine zQ ?_|fail)
  have e:=qlF g hlt
  have el:(qd1 g i).length+1=(qd1 g (i+1)).length:=by rw[e];simp
  rw[←e,el]
  exact⟨hlt,trivial,qaa (nx:=32) (k:=1) (ns:=[]) (ks:=[7,8,3,4,5]) [(3,3),(0,0),(1,1),(2,2)] rfl (by simp) (by kernel_rfl)⟩
 ·have e:i=g.soils.length:=by omega
  subst e
  repeat'(first|refine zQ ?_|(refine zI ?_;intro hlt)|(refine zC ?_ ?_<;>first|intro h|simp)|fail)
  all_goals try exact absurd hlt (by omega)
  rw[qnh g m a]
  refine qad m.levels.length (fun i=>⟨[(9,.int .i64 i),(7,.os 3 0 (qaN g m a i).length),(3,.op 0 0 0),(4,.op 1 0 0),(5,.op 2 0 0)],[(3,⟨2,true,(qaN g m a i).map qbJ⟩),(0,⟨2,true,[qam g]⟩),(1,⟨6,true,[qag m]⟩),(2,⟨6,true,[qag a]⟩)],32,104⟩) (fun _=>True)
   (qaa (nx:=32) (k:=1) (ns:=[]) (ks:=[9,7,3,4,5]) [(3,3),(0,0),(1,1),(2,2)] rfl (by simp) (by kernel_rfl)) trivial ?_
  intro i hi2 _
  by_cases hlt2:i<m.levels.length
  ·have hlia:i<a.levels.length:=by omega
   have em:=qbv hlt2
   have ea:=qbv hlia
   have hcs:=qdM g m a i
   have hVB:=qiv hg hm ha hla i hi2
   have c1:Contract Tryz.prog 62 [.agg (qag m),.int .i64 i] (.ret (.bool (!decide (lv m.levels i=30000)))):=qC5 m (i:Int) (by omega) (by omega)
   have c2:Contract Tryz.prog 62 [.agg (qag a),.int .i64 i] (.ret (.bool (!decide (lv a.levels i=30000)))):=qC5 a (i:Int) (by omega) (by omega)
   have c103i:=qCP m hm i hlt2
   have h51:=c51 g hg (qar m i) (qdr hm hlt2) m.levels[i] a.levels[i]
   have hnx:qaN g m a (i+1)=if lv m.levels i≠30000∧lv a.levels i≠30000 then qis g m.side (qaN g m a i) (qcl g m a i) (qcl g m a i).length else qaN g m a i:=rfl
   have hca:qcl g m a i=qaI g (qar m i) m.levels[i] a.levels[i]:=by unfold qcl;rw[em,ea]
   by_cases hk:lv m.levels i≠30000∧lv a.levels i≠30000
   ·rw[if_pos hk]at hnx
    rw[decide_eq_false hk.1]at c1
    rw[decide_eq_false hk.2]at c2
    have hcp:=qjk hg hm ha hla hlt2 hk
    have hcl:(qcl g m a i).length≤12:=qrn hg _ _ _
    have hcq:∀q∈qcl g m a i,0≤qbj g.soils q.soil∧(qbj g.soils q.soil).toNat<g.soils.length:=fun q hq=>by
     have:=qfU hg hq
     exact⟨this.2.2.2.1,this.2.2.2.2⟩
    have hac:=fun j=>qiu g m.side (qaN g m a i) (qcl g m a i) j
    have hav:=fun j=>qoj (g:=g) (C:=qcl g m a i) hm.bds.2.1 hVB hcp j
    have has:=fun{j} h=>qit g m.side (qaN g m a i) (C:=qcl g m a i) (j:=j) h
    rw[←hca]at h51
    repeat'(first|((with_reducible apply qdT);rfl;(exact h51);(exact qii);rfl)|refine zQ ?_|refine zF c1 ?_|refine zF c2 ?_|refine zF c103i ?_|(refine zI ?_;intro hlt)|(refine zC ?_ ?_<;>first|intro h|simp)|fail)
    all_goals try exact absurd hlt2 (by omega)
    clear hca h51
    generalize qcl g m a i=C at*
    generalize qaN g m a i=L at*
    refine qad C.length (fun j=>⟨[(11,.int .i64 j),(10,.os 4 0 C.length),(7,.os 3 0 L.length),(9,.int .i64 i),(3,.op 0 0 0),(4,.op 1 0 0),(5,.op 2 0 0)],[(4,⟨3,true,C.map qbH⟩),(3,⟨2,true,(qis g m.side L C j).map qbJ⟩),(0,⟨2,true,[qam g]⟩),(1,⟨6,true,[qag m]⟩),(2,⟨6,true,[qag a]⟩)],32,104⟩) (fun _=>True)
     (qaa (nx:=32) (k:=1) (ns:=[]) (ks:=[11,10,7,9,3,4,5]) [(960,4),(3,3),(0,0),(1,1),(2,2)] rfl (by simp) (by kernel_rfl)) trivial ?_
    intro j hj _
    by_cases hlj:j<C.length
    ·have hq:=hcq C[j] (List.getElem_mem hlj)
     have hd:=hcp C[j] (List.getElem_mem hlj)
     have hv:=qxN hd hm.bds.2.1
     obtain⟨k,ek⟩:=Int.eq_ofNat_of_zero_le hq.1
     have hkk:(qbj g.soils C[j].soil).toNat=k:=by omega
     have hacj:=hac j
     have hkL:k<(qis g m.side L C j).length:=by omega
     have hvk:=hav j k hkL
     have hsj:=has hlj
     rw[hkk,qoi hkL]at hsj
     have h84:Contract Tryz.prog 179 [.sl (g.soils.map qaG),.str C[j].soil] (.ret (.int .i64 k)):=by
      have:=c84 g.soils hsl C[j].soil
      rwa[ek]at this
     repeat'(first|refine zQ ?_|refine zF h84 ?_|(refine zI ?_;intro hlt)|(refine zC ?_ ?_<;>first|intro h|simp)|fail)
     all_goals try exact absurd hlj (by omega)
     refine qaF (f:=qbJ) (l:=qis g m.side L C j) (a:=⟨(qis g m.side L C j)[k].soil,(qis g m.side L C j)[k].vol+(C[j].top-C[j].bottom)*m.side*m.side⟩) rfl rfl rfl hkL rfl rfl rfl rfl (zL rfl) rfl ?_
     repeat'(first|refine zQ ?_|fail)
     refine⟨‹j<C.length›,trivial,?_⟩
     rw[hsj]
     exact qaa (nx:=32) (k:=1) (ns:=[]) (ks:=[11,10,7,9,3,4,5]) [(4,4),(3,3),(0,0),(1,1),(2,2)] rfl (by simp) (by kernel_rfl)
    ·have e:j=C.length:=by omega
     repeat'(first|refine zQ ?_|(refine zI ?_;intro hlt)|(refine zC ?_ ?_<;>first|intro h|simp)|fail)
     all_goals try exact absurd hlj (by omega)
     refine⟨hlt2,trivial,?_⟩
     rw[hnx,←e,hac j]
     exact qaa (nx:=32) (k:=1) (ns:=[]) (ks:=[9,7,3,4,5]) [(3,3),(0,0),(1,1),(2,2)] rfl (by simp) (by kernel_rfl)
   ·rw[if_neg hk]at hnx
    repeat'(first|refine zQ ?_|refine zF c1 ?_|refine zF c2 ?_|refine zF c103i ?_|(refine zI ?_;intro hlt)|(refine zC ?_ ?_<;>first|intro h|simp)|(refine zG ?_ ?_<;>first|intro h|simp)|fail)
    all_goals first
     |exact absurd hlt2 (by omega)
     |exact absurd (And.intro ‹¬lv m.levels i=30000› ‹¬lv a.levels i=30000›) hk
     |(refine⟨‹i<m.levels.length›,trivial,?_⟩;rw[hnx];exact qaa (nx:=32) (k:=1) (ns:=[]) (ks:=[9,7,3,4,5]) [(3,3),(0,0),(1,1),(2,2)] rfl (by simp) (by kernel_rfl))
     |trace_state
  ·have e:i=m.levels.length:=by omega
   repeat'(first|refine zQ ?_|(refine zC ?_ ?_<;>first|intro h|simp)|fail)
   all_goals try exact absurd hlt2 (by omega)
   rw[←e]
   exact qhu rfl rfl rfl rfl
theorem qE8(g:Ground)(hsl:g.soils.length<1000000000000)(hbl:g.borings.length<1000000000000)(m a:Grid)(hl:m.levels.length<1000000000000)(hla':a.levels.length<1000000000000)(hge:qbg g [m,a]=0):
  Contract Tryz.prog 191 [.agg (qam g),.agg (qag m),.agg (qag a)] (.ret (.tup [.fr 2 ((qaN g m a m.levels.length).map qbJ),.int .i64 0])):=by
 have h93:=c93 g hsl hbl [m,a] (by simp) (by intro x hx;simp at hx;rcases hx with rfl|rfl<;>assumption)
 rw[hge]at h93
 obtain⟨h1,h2,h3,h4⟩:=qz7 hge
 have hg:=okG h1
 have hm:=qf4 h2
 have ha:=qf4 h3
 have hla:=qpT hm ha h4
 have hs:=hm.small
 have h8:=qfs hg
 refine zT mix Tryz.func191 Tryz.ntmps191 Tryz.results191 rfl rfl rfl ?_;simp only[qab,Nat.reduceAdd]
 repeat'(first|refine zQ ?_|refine zF h93 ?_|fail)
 all_goals try exact absurd rfl ‹_›
 refine qad g.soils.length (fun i=>⟨[(9,.os 3 0 (qd1 g i).length),(28,.int .i64 i),(27,.int .i64 g.soils.length),(26,.sl (g.soils.map qaG)),(3,.op 0 0 0),(4,.op 1 0 0),(5,.op 2 0 0)],[(3,⟨2,true,(qd1 g i).map qbJ⟩),(0,⟨2,true,[qam g]⟩),(1,⟨6,true,[qag m]⟩),(2,⟨6,true,[qag a]⟩)],32,102⟩) (fun _=>True)
  (qaa (nx:=32) (k:=2) (ns:=[(9,3)]) (ks:=[28,27,26,3,4,5]) [(0,0),(32,1),(64,2)] rfl (by simp;rfl) (by kernel_rfl)) trivial ?_
 intro i hi _
 by_cases hlt:i<g.soils.length
 ·have hnl:=qng g hi
  repeat'(first|refine zQ ?_|(refine zI ?_;intro hlt)|(refine zC ?_ ?_<;>first|intro h|simp)|fail)
  all_goals try exact absurd hlt (by omega)
  refine qaH (f:=qbJ) (a:=⟨_,_⟩) (l:=qd1 g i) qpS rfl rfl rfl rfl rfl rfl (by kernel_rfl) (by kernel_rfl) (by omega) rfl ?_
  repeat'(first|refine zQ ?_|fail)
  have e:=qlF g hlt
  have el:(qd1 g i).length+1=(qd1 g (i+1)).length:=by rw[e];simp
  rw[←e,el]
  exact⟨hlt,trivial,qaa (nx:=32) (k:=1) (ns:=[]) (ks:=[9,28,27,26,3,4,5]) [(3,3),(0,0),(1,1),(2,2)] rfl (by simp) (by kernel_rfl)⟩
 ·have e:i=g.soils.length:=by omega
  subst e
  repeat'(first|refine zQ ?_|(refine zI ?_;intro hlt)|(refine zC ?_ ?_<;>first|intro h|simp)|fail)
  all_goals try exact absurd hlt (by omega)
  rw[qnh g m a]
  refine qad m.levels.length (fun i=>⟨[(42,.int .i64 i),(41,.int .i64 m.levels.length),(40,.sl (m.levels.map qal)),(9,.os 3 0 (qaN g m a i).length),(3,.op 0 0 0),(4,.op 1 0 0),(5,.op 2 0 0)],[(3,⟨2,true,(qaN g m a i).map qbJ⟩),(0,⟨2,true,[qam g]⟩),(1,⟨6,true,[qag m]⟩),(2,⟨6,true,[qag a]⟩)],32,102⟩) (fun _=>True)
   (qaa (nx:=32) (k:=1) (ns:=[]) (ks:=[42,41,40,9,3,4,5]) [(3,3),(0,0),(1,1),(2,2)] rfl (by simp) (by kernel_rfl)) trivial ?_
  intro i hi2 _
  by_cases hlt2:i<m.levels.length
  ·have hlia:i<a.levels.length:=by omega
   have em:=qbv hlt2
   have ea:=qbv hlia
   have hcs:=qdM g m a i
   have hVB:=qiv hg hm ha hla i hi2
   have c101i:=qG1 m hm i hlt2 h2
   have h97:=c97 g hg (qar m i) m.levels[i] a.levels[i]
   have hnx:qaN g m a (i+1)=if lv m.levels i≠30000∧lv a.levels i≠30000 then qis g m.side (qaN g m a i) (qcl g m a i) (qcl g m a i).length else qaN g m a i:=rfl
   have hca:qcl g m a i=qaI g (qar m i) m.levels[i] a.levels[i]:=by unfold qcl;rw[em,ea]
   have hskip:(m.levels[i]=30000∨a.levels[i]=30000∨m.levels[i]≤a.levels[i])→qaN g m a (i+1)=qaN g m a i:=fun h=>by
    rw[hnx]
    split
    ·rename_i hk
     rw[em,ea]at hk
     rw[hca,qro hg (by omega)]
     rfl
    ·rfl
   rw[←hca]at h97
   have hreal:¬(m.levels[i]=30000∨a.levels[i]=30000)→qaN g m a (i+1)=qis g m.side (qaN g m a i) (qcl g m a i) (qcl g m a i).length:=fun h=>by
    rw[hnx,if_pos (by rw[em,ea];omega)]
   have hcp':¬(m.levels[i]=30000∨a.levels[i]=30000)→∀q∈qcl g m a i,0≤q.top-q.bottom∧q.top-q.bottom≤40000:=fun h=>qjk hg hm ha hla hlt2 (by rw[em,ea];omega)
   have hcq:∀q∈qcl g m a i,0≤qbj g.soils q.soil∧(qbj g.soils q.soil).toNat<g.soils.length:=fun q hq=>by
    have:=qfU hg hq
    exact⟨this.2.2.2.1,this.2.2.2.2⟩
   have hcl:(qcl g m a i).length≤12:=qrn hg _ _ _
   repeat'(first|((with_reducible apply qdT);rfl;(exact h97);(exact qii);rfl)|refine zQ ?_|refine zF c101i ?_|(refine zI ?_;intro hlt)|(refine zC ?_ ?_<;>first|intro h|simp)|(refine zG ?_ ?_<;>first|intro h|simp)|fail)
   all_goals try exact absurd hlt2 (by omega)
   all_goals try(refine⟨‹i<m.levels.length›,trivial,?_⟩;rw[hskip (by omega)];exact qaa (nx:=32) (k:=1) (ns:=[]) (ks:=[42,41,40,9,3,4,5]) [(3,3),(0,0),(1,1),(2,2)] rfl (by simp) (by kernel_rfl))
   have hcp:=hcp' (by omega)
   have hre:=hreal (by omega)
   have hac:=fun j=>qiu g m.side (qaN g m a i) (qcl g m a i) j
   have hav:=fun j=>qoj (g:=g) (C:=qcl g m a i) hm.bds.2.1 hVB hcp j
   have has:=fun{j} h=>qit g m.side (qaN g m a i) (C:=qcl g m a i) (j:=j) h
   clear hca h97 hskip hreal hcp' hnx
   generalize qcl g m a i=C at*
   generalize qaN g m a i=L at*
   refine qad C.length (fun j=>⟨[(72,.int .i64 j),(71,.int .i64 C.length),(70,.os 4 0 C.length),(9,.os 3 0 L.length),(42,.int .i64 i),(41,.int .i64 m.levels.length),(40,.sl (m.levels.map qal)),(3,.op 0 0 0),(4,.op 1 0 0),(5,.op 2 0 0)],[(4,⟨3,true,C.map qbH⟩),(3,⟨2,true,(qis g m.side L C j).map qbJ⟩),(0,⟨2,true,[qam g]⟩),(1,⟨6,true,[qag m]⟩),(2,⟨6,true,[qag a]⟩)],32,102⟩) (fun _=>True)
    (qaa (nx:=32) (k:=1) (ns:=[]) (ks:=[72,71,70,9,42,41,40,3,4,5]) [(992,4),(3,3),(0,0),(1,1),(2,2)] rfl (by simp) (by kernel_rfl)) trivial ?_
   intro j hj _
   by_cases hlj:j<C.length
   ·have hq:=hcq C[j] (List.getElem_mem hlj)
    have hd:=hcp C[j] (List.getElem_mem hlj)
    have hv:=qxN hd hm.bds.2.1
    have hv4:=hv.2.2.2
    obtain⟨k,ek⟩:=Int.eq_ofNat_of_zero_le hq.1
    have hkk:(qbj g.soils C[j].soil).toNat=k:=by omega
    have hacj:=hac j
    have hkL:k<(qis g m.side L C j).length:=by omega
    have hvk:=hav j k hkL
    have hsj:=has hlj
    rw[hkk,qoi hkL,←hv4]at hsj
    have h102:Contract Tryz.prog 228 [.sl (g.soils.map qaG),.str C[j].soil] (.ret (.int .i64 k)):=by
     have:=qHS g.soils hsl C[j].soil
     rwa[ek]at this
    repeat'(first|refine zQ ?_|refine zF h102 ?_|(refine zI ?_;intro hlt)|(refine zC ?_ ?_<;>first|intro h|simp)|fail)
    all_goals try exact absurd hlj (by omega)
    all_goals try simp only[Nat.reduceAdd]
    refine qaF (f:=qbJ) (l:=qis g m.side L C j) (a:=⟨(qis g m.side L C j)[k].soil,(qis g m.side L C j)[k].vol+m.side*m.side*(C[j].top-C[j].bottom)⟩) rfl rfl rfl hkL rfl rfl rfl rfl (zL rfl) rfl ?_
    repeat'(first|refine zQ ?_|fail)
    refine⟨‹j<C.length›,trivial,?_⟩
    rw[hsj]
    exact qaa (nx:=32) (k:=1) (ns:=[]) (ks:=[72,71,70,9,42,41,40,3,4,5]) [(4,4),(3,3),(0,0),(1,1),(2,2)] rfl (by simp) (by kernel_rfl)
   ·have e:j=C.length:=by omega
    repeat'(first|refine zQ ?_|(refine zI ?_;intro hlt)|(refine zC ?_ ?_<;>first|intro h|simp)|fail)
    all_goals try exact absurd hlj (by omega)
    refine⟨hlt2,trivial,?_⟩
    rw[hre,←e,hac j]
    exact qaa (nx:=32) (k:=1) (ns:=[]) (ks:=[42,41,40,9,3,4,5]) [(3,3),(0,0),(1,1),(2,2)] rfl (by simp) (by kernel_rfl)
  ·have e:i=m.levels.length:=by omega
   repeat'(first|refine zQ ?_|(refine zI ?_;intro hlt)|(refine zC ?_ ?_<;>first|intro h|simp)|(refine zG ?_ ?_<;>first|intro h|simp)|fail)
   all_goals try exact absurd hlt2 (by omega)
   rw[←e]
   exact qbs (qnV rfl (by simp) rfl rfl rfl)
end Go.Pv.Soil

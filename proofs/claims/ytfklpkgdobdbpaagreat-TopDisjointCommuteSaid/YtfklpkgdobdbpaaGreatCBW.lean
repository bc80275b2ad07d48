import Derived.Test.YtfklpkgdobdbpaaGreatCBR
/- Part of the proofs over YtfklpkgdobdbpaaGreat: N62, N63. -/
set_option linter.unusedVariables false
set_option linter.unusedSimpArgs false
set_option linter.unnecessarySimpa false
open Go Go.Proofs Go.Pv
set_option maxHeartbeats 8000000
set_option maxRecDepth 100000
set_option linter.unusedSimpArgs false
set_option linter.unusedVariables false
namespace Go.Pv.Soil
def qw5(s:Site):Bool:=decide (s.bed.levels.length≤16)&&(decide (s.ground.soils.length≤4)&&(decide (s.ground.borings.length≤5)&&(decide (s.zones.length≤12)&&(decide (s.quays.length≤7)&&(decide (s.gauges.length≤4)&&decide (s.dreds.length≤8))))))
def qny(s:Site):Bool:=qw5 s&&(s.ground.borings.all (fun b=>decide (b.layers.length≤5))&&(s.zones.all (fun z=>decide (z.name.size≤50∧z.corners.length≤12))&&(s.gauges.all (fun g=>decide (g.marks.length≤12))&&s.dreds.all (fun d=>decide (d.name.size≤50∧d.outs.length≤10)))))
theorem qih{α:Type}{p:α→Bool}{l:List α}(h:∀j (hj:j<l.length),p l[j]=true):l.all p=true:=by
 rw[List.all_eq_true]
 intro x hx
 obtain⟨j,hj,rfl⟩:=List.getElem_of_mem hx
 exact h j hj
theorem qle{α:Type}{p:α→Bool}{l:List α}{j:Nat}(hj:j<l.length)(h:p l[j]=false):l.all p=false:=by
 rw[List.all_eq_false]
 exact⟨l[j],List.getElem_mem hj,by rw[h];simp⟩
theorem qpo{α:Type}{p:α→Bool}{l:List α}{i:Nat}(hL:i<l.length)(hC:∀j (hj:j<i) (hj':j<l.length),p l[j]=true)(h:p l[i]=true):∀j (hj:j<i+1) (hj':j<l.length),p l[j]=true:=fun j hj hj'=>by
 rcases Nat.lt_succ_iff_lt_or_eq.1 hj with h'|rfl
 ·exact hC j h' hj'
 ·exact h
theorem qnz(s:Site)(hw:Wide s):Contract Tryz.prog 20 [.agg (encSite s)] (.ret (.bool (qny s))):=by
 obtain⟨w1,w2,w3,w4,w5,w6,w7,w8,w9,w10,w11⟩:=hw
 by_cases hh:qw5 s=true
 rotate_left
 ·have e:qny s=false:=by unfold qny;rw[Bool.not_eq_true]at hh;rw[hh];rfl
  rw[e]
  refine zT mix Tryz.func20 Tryz.ntmps20 Tryz.results20 rfl rfl rfl ?_;simp only[qac,Nat.reduceAdd]
  repeat'(first|(with_reducible rfl)|refine zQ ?_|(refine zC ?_ ?_<;>first|intro h|simp)|(refine zG ?_ ?_<;>first|intro h|simp)|refine zE ?_|fail)
  all_goals first
   |rfl
   |(exfalso;apply hh;simp only[qw5,Bool.and_eq_true,decide_eq_true_eq];omega)
   |trace_state
 have hh2:=hh
 simp only[qw5,Bool.and_eq_true,decide_eq_true_eq]at hh2
 unfold qny
 rw[hh,Bool.true_and]
 refine zT mix Tryz.func20 Tryz.ntmps20 Tryz.results20 rfl rfl rfl ?_;simp only[qac,Nat.reduceAdd]
 repeat'(first|refine zQ ?_|(refine zC ?_ ?_<;>first|intro h|simp)|(refine zG ?_ ?_<;>first|intro h|simp)|fail)
 all_goals try(exfalso;omega)
 refine qaf s.ground.borings.length (fun i=>⟨[(3,.int .i64 i),(1,.op 0 0 0)],[(0,⟨12,true,[encSite s]⟩)],32,132⟩) (fun i=>∀j (hj:j<i) (hj':j<s.ground.borings.length),(fun b:Boring=>decide (b.layers.length≤5)) s.ground.borings[j]=true) ?_ (fun j hj=>absurd hj (by omega)) ?_
 ·exact qaa (nx:=32) (k:=0) (ns:=[]) (ks:=[3,1]) [(0,0)] rfl (by simp) (by kernel_rfl)
 intro i hi hC
 by_cases hL0:i<s.ground.borings.length
 ·have hw0:=w4 _ (List.getElem_mem hL0)
  by_cases hc:s.ground.borings[i].layers.length≤5
  ·repeat'(first|refine zQ ?_|(refine zI ?_;intro hlt)|(refine zC ?_ ?_<;>first|intro h|simp)|fail)
   all_goals first
    |exact absurd hL0 (by omega)
    |(exfalso;omega)
    |(refine⟨hL0,qpo (p:=fun b:Boring=>decide (b.layers.length≤5)) hL0 hC (decide_eq_true hc),?_⟩;exact qaa (nx:=32) (k:=0) (ns:=[]) (ks:=[3,1]) [(0,0)] rfl (by simp) (by kernel_rfl))
    |trace_state
  ·have hno:s.ground.borings.all (fun b:Boring=>decide (b.layers.length≤5))=false:=qle hL0 (decide_eq_false hc)
   rw[hno]
   try simp only[Bool.false_and,Bool.and_false]
   repeat'(first|(with_reducible rfl)|refine zQ ?_|(refine zI ?_;intro hlt)|(refine zC ?_ ?_<;>first|intro h|simp)|refine zE ?_|fail)
   all_goals first
    |exact absurd hL0 (by omega)
    |rfl
    |(exfalso;omega)
    |trace_state
 have hyes0:s.ground.borings.all (fun b:Boring=>decide (b.layers.length≤5))=true:=qih fun j hj=>hC j (by omega) hj
 rw[hyes0]
 try simp only[Bool.true_and]
 clear hC
 repeat'(first|refine zQ ?_|(refine zI ?_;intro hlt)|(refine zC ?_ ?_<;>first|intro h|simp)|fail)
 all_goals try exact absurd (show i<s.ground.borings.length by omega) hL0
 refine qaf s.zones.length (fun i=>⟨[(4,.int .i64 i),(1,.op 0 0 0)],[(0,⟨12,true,[encSite s]⟩)],32,132⟩) (fun i=>∀j (hj:j<i) (hj':j<s.zones.length),(fun z:qfD=>decide (z.name.size≤50∧z.corners.length≤12)) s.zones[j]=true) ?_ (fun j hj=>absurd hj (by omega)) ?_
 ·exact qaa (nx:=32) (k:=0) (ns:=[]) (ks:=[4,1]) [(0,0)] rfl (by simp) (by kernel_rfl)
 intro i hi hC
 by_cases hL1:i<s.zones.length
 ·have hw1:=w6 _ (List.getElem_mem hL1)
  by_cases hc:s.zones[i].name.size≤50∧s.zones[i].corners.length≤12
  ·repeat'(first|refine zQ ?_|(refine zI ?_;intro hlt)|(refine zC ?_ ?_<;>first|intro h|simp)|(refine zG ?_ ?_<;>first|intro h|simp)|fail)
   all_goals first
    |exact absurd hL1 (by omega)
    |(exfalso;omega)
    |(refine⟨hL1,qpo (p:=fun z:qfD=>decide (z.name.size≤50∧z.corners.length≤12)) hL1 hC (decide_eq_true hc),?_⟩;exact qaa (nx:=32) (k:=0) (ns:=[]) (ks:=[4,1]) [(0,0)] rfl (by simp) (by kernel_rfl))
    |trace_state
  ·have hno:s.zones.all (fun z:qfD=>decide (z.name.size≤50∧z.corners.length≤12))=false:=qle hL1 (decide_eq_false hc)
   rw[hno]
   try simp only[Bool.false_and,Bool.and_false]
   repeat'(first|(with_reducible rfl)|refine zQ ?_|(refine zI ?_;intro hlt)|(refine zC ?_ ?_<;>first|intro h|simp)|(refine zG ?_ ?_<;>first|intro h|simp)|refine zE ?_|fail)
   all_goals first
    |exact absurd hL1 (by omega)
    |rfl
    |(exfalso;omega)
    |trace_state
 have hyes1:s.zones.all (fun z:qfD=>decide (z.name.size≤50∧z.corners.length≤12))=true:=qih fun j hj=>hC j (by omega) hj
 rw[hyes1]
 try simp only[Bool.true_and]
 clear hC
 repeat'(first|refine zQ ?_|(refine zI ?_;intro hlt)|(refine zC ?_ ?_<;>first|intro h|simp)|(refine zG ?_ ?_<;>first|intro h|simp)|fail)
 all_goals try exact absurd (show i<s.zones.length by omega) hL1
 refine qaf s.gauges.length (fun i=>⟨[(5,.int .i64 i),(1,.op 0 0 0)],[(0,⟨12,true,[encSite s]⟩)],32,132⟩) (fun i=>∀j (hj:j<i) (hj':j<s.gauges.length),(fun g:Gauge=>decide (g.marks.length≤12)) s.gauges[j]=true) ?_ (fun j hj=>absurd hj (by omega)) ?_
 ·exact qaa (nx:=32) (k:=0) (ns:=[]) (ks:=[5,1]) [(0,0)] rfl (by simp) (by kernel_rfl)
 intro i hi hC
 by_cases hL2:i<s.gauges.length
 ·have hw2:=w9 _ (List.getElem_mem hL2)
  by_cases hc:s.gauges[i].marks.length≤12
  ·repeat'(first|refine zQ ?_|(refine zI ?_;intro hlt)|(refine zC ?_ ?_<;>first|intro h|simp)|fail)
   all_goals first
    |exact absurd hL2 (by omega)
    |(exfalso;omega)
    |(refine⟨hL2,qpo (p:=fun g:Gauge=>decide (g.marks.length≤12)) hL2 hC (decide_eq_true hc),?_⟩;exact qaa (nx:=32) (k:=0) (ns:=[]) (ks:=[5,1]) [(0,0)] rfl (by simp) (by kernel_rfl))
    |trace_state
  ·have hno:s.gauges.all (fun g:Gauge=>decide (g.marks.length≤12))=false:=qle hL2 (decide_eq_false hc)
   rw[hno]
   try simp only[Bool.false_and,Bool.and_false]
   repeat'(first|(with_reducible rfl)|refine zQ ?_|(refine zI ?_;intro hlt)|(refine zC ?_ ?_<;>first|intro h|simp)|refine zE ?_|fail)
   all_goals first
    |exact absurd hL2 (by omega)
    |rfl
    |(exfalso;omega)
    |trace_state
 have hyes2:s.gauges.all (fun g:Gauge=>decide (g.marks.length≤12))=true:=qih fun j hj=>hC j (by omega) hj
 rw[hyes2]
 try simp only[Bool.true_and]
 clear hC
 repeat'(first|refine zQ ?_|(refine zI ?_;intro hlt)|(refine zC ?_ ?_<;>first|intro h|simp)|fail)
 all_goals try exact absurd (show i<s.gauges.length by omega) hL2
 refine qaf s.dreds.length (fun i=>⟨[(6,.int .i64 i),(1,.op 0 0 0)],[(0,⟨12,true,[encSite s]⟩)],32,132⟩) (fun i=>∀j (hj:j<i) (hj':j<s.dreds.length),(fun d:Dred=>decide (d.name.size≤50∧d.outs.length≤10)) s.dreds[j]=true) ?_ (fun j hj=>absurd hj (by omega)) ?_
 ·exact qaa (nx:=32) (k:=0) (ns:=[]) (ks:=[6,1]) [(0,0)] rfl (by simp) (by kernel_rfl)
 intro i hi hC
 by_cases hL3:i<s.dreds.length
 ·have hw3:=w11 _ (List.getElem_mem hL3)
  by_cases hc:s.dreds[i].name.size≤50∧s.dreds[i].outs.length≤10
  ·repeat'(first|refine zQ ?_|(refine zI ?_;intro hlt)|(refine zC ?_ ?_<;>first|intro h|simp)|(refine zG ?_ ?_<;>first|intro h|simp)|fail)
   all_goals first
    |exact absurd hL3 (by omega)
    |(exfalso;omega)
    |(refine⟨hL3,qpo (p:=fun d:Dred=>decide (d.name.size≤50∧d.outs.length≤10)) hL3 hC (decide_eq_true hc),?_⟩;exact qaa (nx:=32) (k:=0) (ns:=[]) (ks:=[6,1]) [(0,0)] rfl (by simp) (by kernel_rfl))
    |trace_state
  ·have hno:s.dreds.all (fun d:Dred=>decide (d.name.size≤50∧d.outs.length≤10))=false:=qle hL3 (decide_eq_false hc)
   rw[hno]
   try simp only[Bool.false_and,Bool.and_false]
   repeat'(first|(with_reducible rfl)|refine zQ ?_|(refine zI ?_;intro hlt)|(refine zC ?_ ?_<;>first|intro h|simp)|(refine zG ?_ ?_<;>first|intro h|simp)|refine zE ?_|fail)
   all_goals first
    |exact absurd hL3 (by omega)
    |rfl
    |(exfalso;omega)
    |trace_state
 have hyes3:s.dreds.all (fun d:Dred=>decide (d.name.size≤50∧d.outs.length≤10))=true:=qih fun j hj=>hC j (by omega) hj
 rw[hyes3]
 try simp only[Bool.true_and]
 clear hC
 repeat'(first|(with_reducible rfl)|refine zQ ?_|(refine zI ?_;intro hlt)|(refine zC ?_ ?_<;>first|intro h|simp)|(refine zG ?_ ?_<;>first|intro h|simp)|refine zE ?_|fail)
 all_goals try exact absurd (show i<s.dreds.length by omega) hL3
 all_goals rfl
def qxb(l:List Cut)(most:Nat):Bool:=decide (l.length≤most)&&l.all fun c=>decide (c.name.size≤50∧c.dredger.size≤50)
theorem qGf{l:List Cut}{most:Nat}(h:qxb l most=true):l.length≤most:=by
 simp only[qxb,Bool.and_eq_true,decide_eq_true_eq]at h
 exact h.1
theorem qiT{s:Site}(hw:Wide s)(h:qny s=true):Sized s∧s.bed.levels.length≤16∧s.dreds.length≤8∧s.zones.length≤12∧s.quays.length≤7∧s.ground.soils.length≤4:=by
 unfold qny at h
 rw[Bool.and_eq_true]at h
 have h1:=h.1
 simp only[qw5,Bool.and_eq_true,decide_eq_true_eq]at h1
 exact⟨⟨by omega,by omega,by omega,hw.zo,hw.qu,hw.ga,hw.ma,hw.dr,hw.ou⟩,by omega,by omega,by omega,by omega,by omega⟩
theorem qBO(l:List Cut)(hl:l.length≤9223372036854775807)(most:Nat)(hm:most≤1000):Contract Tryz.prog 21 [.sl (l.map encCut),.int .i64 most] (.ret (.bool (qxb l most))):=by
 unfold qxb
 by_cases h0:l.length≤most
 rotate_left
 ·rw[decide_eq_false h0,Bool.false_and]
  refine zT mix Tryz.func21 Tryz.ntmps21 Tryz.results21 rfl rfl rfl ?_;simp only[qac,Nat.reduceAdd]
  repeat'(first|refine zQ ?_|fail)
  refine qaf 0 (fun i=>⟨[(5,.int .i64 i),(0,.sl (l.map encCut)),(1,.int .i64 most)],[],32,38⟩) (fun i=>True) ?_ trivial ?_
  ·exact qaa (nx:=32) (k:=0) (ns:=[]) (ks:=[5,0,1]) [] rfl (by simp) (by kernel_rfl)
  intro i hi _
  obtain rfl:i=0:=by omega
  repeat'(first|(with_reducible rfl)|refine zQ ?_|(refine zI ?_;intro hlt)|(refine zC ?_ ?_<;>first|intro h|simp)|(refine zG ?_ ?_<;>first|intro h|simp)|refine zE ?_|fail)
  all_goals first
   |(exfalso;omega)
   |(rw[decide_eq_false (by omega)];done)
   |rfl
   |trace_state
 rw[decide_eq_true h0,Bool.true_and]
 refine zT mix Tryz.func21 Tryz.ntmps21 Tryz.results21 rfl rfl rfl ?_;simp only[qac,Nat.reduceAdd]
 repeat'(first|refine zQ ?_|fail)
 refine qaf l.length (fun i=>⟨[(5,.int .i64 i),(0,.sl (l.map encCut)),(1,.int .i64 most)],[],32,38⟩) (fun i=>∀j (hj:j<i) (hj':j<l.length),(fun c:Cut=>decide (c.name.size≤50∧c.dredger.size≤50)) l[j]=true) ?_ (fun j hj=>absurd hj (by omega)) ?_
 ·exact qaa (nx:=32) (k:=0) (ns:=[]) (ks:=[5,0,1]) [] rfl (by simp) (by kernel_rfl)
 intro i hi hC
 by_cases hL:i<l.length
 ·by_cases hc:l[i].name.size≤50∧l[i].dredger.size≤50
  ·repeat'(first|refine zQ ?_|(refine zI ?_;intro hlt)|(refine zC ?_ ?_<;>first|intro h|simp)|(refine zG ?_ ?_<;>first|intro h|simp)|fail)
   all_goals first
    |exact absurd hL (by omega)
    |(exfalso;omega)
    |(refine⟨hL,qpo (p:=fun c:Cut=>decide (c.name.size≤50∧c.dredger.size≤50)) hL hC (decide_eq_true hc),?_⟩;exact qaa (nx:=32) (k:=0) (ns:=[]) (ks:=[5,0,1]) [] rfl (by simp) (by kernel_rfl))
    |trace_state
  ·have hno:l.all (fun c:Cut=>decide (c.name.size≤50∧c.dredger.size≤50))=false:=qle hL (decide_eq_false hc)
   rw[hno]
   repeat'(first|(with_reducible rfl)|refine zQ ?_|(refine zI ?_;intro hlt)|(refine zC ?_ ?_<;>first|intro h|simp)|(refine zG ?_ ?_<;>first|intro h|simp)|refine zE ?_|fail)
   all_goals first
    |exact absurd hL (by omega)
    |rfl
    |(exfalso;omega)
    |trace_state
 have hyes:l.all (fun c:Cut=>decide (c.name.size≤50∧c.dredger.size≤50))=true:=qih fun j hj=>hC j (by omega) hj
 rw[hyes]
 clear hC
 repeat'(first|refine zQ ?_|(refine zI ?_;intro hlt)|(refine zC ?_ ?_<;>first|intro h|simp)|(refine zG ?_ ?_<;>first|intro h|simp)|refine zE ?_|fail)
 all_goals first
  |(exfalso;omega)
  |(rw[decide_eq_true (by omega)];done)
  |rfl
  |trace_state
end Go.Pv.Soil

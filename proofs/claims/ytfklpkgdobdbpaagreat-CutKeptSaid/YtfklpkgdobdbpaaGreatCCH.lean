import Derived.Test.YtfklpkgdobdbpaaGreatCCD
/- Part of the proofs over YtfklpkgdobdbpaaGreat: N73. -/
set_option linter.unusedVariables false
set_option linter.unusedSimpArgs false
set_option linter.unnecessarySimpa false
open Go Go.Proofs Go.Pv
set_option maxHeartbeats 8000000
set_option maxRecDepth 100000
set_option linter.unusedSimpArgs false
set_option linter.unusedVariables false
namespace Go.Pv.Soil
theorem qLY{s:Site}{i:Nat}(h:qf7 s i=false){j:Nat}(hj:j<s.zones.length):qfy s.bed i s.zones[j]=false:=by
 unfold qf7 at h
 rw[List.any_eq_false]at h
 simpa using h _ (List.getElem_mem hj)
theorem qMg{s:Site}{c:Cut}{i:Nat}(h:qo1 s c i=false){k:Nat}(hk:k<s.quays.length)(hw:qil s.quays[k] s.bed i≠30000):qil s.quays[k] s.bed i≤c.level:=by
 refine Int.not_lt.1 fun hl=>?_
 rw[(qyz s c i).2 ⟨k,hk,hw,hl⟩]at h
 cases h
theorem qME{low:List Nat}{i:Nat}(hi:i∈low){x:Steep}(h:qw8 low x=false):x.high≠i∧x.low≠i:=by
 unfold qw8 at h
 rw[Bool.or_eq_false_iff]at h
 have hm:inN low (i:Int)=true:=List.any_eq_true.2 ⟨i,hi,by simp⟩
 constructor
 ·intro e;rw[e,hm]at h;cases h.1
 ·intro e;rw[e,hm]at h;cases h.2
theorem law_kept(s:Site)(hw:Wide s)(l:List Cut)(hl:l.length≤9223372036854775807):Contract Tryz.prog 11 [.agg (encSite s),.sl (l.map encCut)] (.ret (.bool true)):=by
 have h0:=qqr
 have h1:=qnz s hw
 have h2:Contract Tryz.prog 21 [.sl (l.map encCut),.int .i64 6] (.ret (.bool (qxb l 6))):=qBO l hl 6 (by omega)
 cases hs:qny s with
 |false=>
  rw[hs]at h1
  refine zT mix Tryz.func11 Tryz.ntmps11 Tryz.results11 rfl rfl rfl ?_;simp only[qac,Nat.reduceAdd]
  repeat'(first|(with_reducible rfl)|refine zQ ?_|refine zF h0 ?_|refine zF h1 ?_|refine zE ?_|fail)
  all_goals first|rfl|(exfalso;simp at *;done)|trace_state
 |true=>
 rw[hs]at h1
 obtain⟨hz,h16,hd8,_,_,_⟩:=qiT hw hs
 cases hf:qxb l 6 with
 |false=>
  rw[hf]at h2
  refine zT mix Tryz.func11 Tryz.ntmps11 Tryz.results11 rfl rfl rfl ?_;simp only[qac,Nat.reduceAdd]
  repeat'(first|(with_reducible rfl)|refine zQ ?_|refine zF h0 ?_|refine zF h1 ?_|refine zF h2 ?_|refine zE ?_|fail)
  all_goals first|rfl|(exfalso;simp at *;done)|trace_state
 |true=>
 rw[hf]at h2
 have hlen:=qGf hf
 have a1:=qlb s hz (by omega) (by omega) l hl
 by_cases hp:qjs s l=0
 rotate_left
 ·generalize qjs s l=q at*
  refine zT mix Tryz.func11 Tryz.ntmps11 Tryz.results11 rfl rfl rfl ?_;simp only[qac,Nat.reduceAdd]
  repeat'(first|(with_reducible rfl)|refine zQ ?_|refine zF h0 ?_|refine zF h1 ?_|refine zF h2 ?_|refine zF a1 ?_|(refine zC ?_ ?_<;>first|intro h|simp)|refine zE ?_|fail)
  all_goals first|rfl|(exfalso;omega)|(exfalso;simp at *;done)|trace_state
 rw[hp]at a1
 have hall:qde s l=0:=by
  unfold qjs at hp
  split at hp
  ·contradiction
  ·rename_i h;exact Classical.not_not.1 h
 obtain⟨hls,hlc⟩:=qfp hall
 have ok:=(qd4 hall).1
 have hfv:qcv s l l.length=none:=by
  unfold qjs at hp
  rw[if_neg (not_not_intro hall)]at hp
  cases hv:qcv s l l.length with
  |none=>rfl
  |some v=>
   obtain⟨k,r,c⟩:=v
   rw[hv]at hp
   exact absurd hp (qKC (Nat.le_refl _) hv)
 have hz10:=ok.zone
 have hq5:=ok.quay.1
 refine zT mix Tryz.func11 Tryz.ntmps11 Tryz.results11 rfl rfl rfl ?_;simp only[qac,Nat.reduceAdd]
 repeat'(first|refine zQ ?_|refine zF h0 ?_|refine zF h1 ?_|refine zF h2 ?_|refine zF a1 ?_|fail)
 refine qaf l.length (fun i=>⟨[(5,.int .i64 i),(1,.sl (l.map encCut)),(2,.op 0 0 0)],[(0,⟨12,true,[encSite s]⟩)],32,147⟩) (fun i=>True) (qaa (nx:=32) (k:=0) (ns:=[]) (ks:=[5,1,2]) [(0,0)] rfl (by simp) (by kernel_rfl)) trivial ?_
 intro i hi _
 by_cases hL:i<l.length
 rotate_left
 ·repeat'(first|(with_reducible rfl)|refine zQ ?_|(refine zC ?_ ?_<;>first|intro h|simp)|refine zE ?_|fail)
  all_goals first|rfl|exact absurd hL (by omega)|trace_state
 have hv:=qKK hfv i hL
 rw[qwH hL]at hv
 split at hv
 ·cases hv
 split at hv
 ·cases hv
 have hP:=qKA.1 hv
 have hob:=qpa ok hlc i
 have hoa:=qpa ok hlc (i+1)
 have ea:=qfr (s:=s) hL
 have hnb:=hob.len ok.bed
 have hna:=hoa.len ok.bed
 have hc:=hlc i hL
 obtain⟨hfa,hft,hfp,hfl⟩:=qby ok.bed hc
 have b1:=qFU s ok l (by omega) hlc i hi
 have b2:Contract Tryz.prog 59 [.agg (encSite s),.sl (l.map encCut),.int .i64 ((i:Int)+1)] (.ret (.agg (encGrid (qeu s l (i+1))))):=qFU s ok l (by omega) hlc (i+1) hL
 have b3:=qu3 qo4 (c59 s.ground (okG ok.gr) hz.so (qeu s l (i+1)) hoa.ok)
 have b4:=qhj s ok.bed l[i] hc
 have hst:∀x∈qcW s.ground (qeu s l (i+1)) (qeu s l (i+1)).levels.length,qw8 (qcd s (qeu s l i) l[i]) x=false:=by rw[ea];exact hP.steep
 have hlvA:∀j,j<(qeu s l i).levels.length→(j∈qcd s (qeu s l i) l[i]→lv (qeu s l (i+1)).levels j=l[i].level)∧(j∉qcd s (qeu s l i) l[i]→lv (qeu s l (i+1)).levels j=lv (qeu s l i).levels j):=fun j hj=>by
  rw[ea]
  exact⟨fun h=>qKH h hj,fun h=>qKY h hj⟩
 have hsl:(qcW s.ground (qeu s l (i+1)) (qeu s l (i+1)).levels.length).length≤256:=by
  refine Nat.le_trans (qgv _ _ _) ?_
  exact Nat.le_trans (Nat.mul_le_mul (show _≤16 by omega) (show _≤16 by omega)) (by decide)
 generalize hST:qcW s.ground (qeu s l (i+1)) (qeu s l (i+1)).levels.length=ST at*
 generalize hLO:qcd s (qeu s l i) l[i]=LO at*
 have hcl:∀k (hk:k<(qaH s l[i]).length),(qaH s l[i])[k]<s.bed.levels.length:=fun k hk=>hft _ (List.getElem_mem hk)
 have hmem:∀k (hk:k<(qaH s l[i]).length),(qaH s l[i])[k]∈qaH s l[i]:=fun k hk=>List.getElem_mem hk
 have hun:=hP.unk
 have hgu:=hP.guard
 have hqu:=hP.quay
 have hlom:∀x,x∈qcd s (qeu s l i) l[i]→l[i].level<lv (qeu s l i).levels x:=fun x hx=>(qKn.1 hx).2.2
 rw[hLO]at hqu hlom
 have r_W:=fun k hk x hx=>qwB s ok (qeu s l (i+1)) hoa k hk x hx
 have hbl:=hob.ok.small
 have hal:=hoa.ok.small
 have hokA:=hoa.ok
 have hcn:∀x,qap (qeu s l (i+1)) x=qap (qeu s l (i+1)) x:=fun _=>rfl
 generalize hBB:qeu s l i=B at*
 generalize hAA:qeu s l (i+1)=A at*
 generalize hXX:qaH s l[i]=XS at*
 repeat'(first|(with_reducible rfl)|refine zQ ?_|refine zF b1 ?_|refine zF b2 ?_|refine zF b3 ?_|refine zF b4 ?_|(refine zI ?_;intro hlt)|(refine zC ?_ ?_<;>first|intro h|simp)|refine zE ?_|fail)
 refine qaf XS.length (fun k=>⟨[(10,.int .i64 k),(9,.sl (XS.map qcX)),(8,.sl (ST.map qbH)),(5,.int .i64 i),(1,.sl (l.map encCut)),(2,.op 0 0 0),(6,.op 1 0 0),(7,.op 2 0 0)],[(0,⟨12,true,[encSite s]⟩),(1,⟨6,false,[encGrid B]⟩),(2,⟨6,false,[encGrid A]⟩)],96,147⟩) (fun k=>True) ?_ trivial ?_
 ·exact qaa (nx:=96) (k:=0) (ns:=[]) (ks:=[10,9,8,5,1,2,6,7]) [(0,0),(448,1),(480,2)] rfl (by simp) (by kernel_rfl)
 intro k hk _
 by_cases hK:k<XS.length
 rotate_left
 ·repeat'(first|refine zQ ?_|(refine zI ?_;intro hlt)|(refine zC ?_ ?_<;>first|intro h|simp)|fail)
  all_goals first
   |exact absurd hK (by omega)
   |exact⟨hL,trivial,qaa (nx:=32) (k:=0) (ns:=[]) (ks:=[5,1,2]) [(0,0)] rfl (by simp) (by kernel_rfl)⟩
   |trace_state
 have hx:=hcl k hK
 have hxm:=hmem k hK
 generalize hX:XS[k]=x at*
 have hxB:x<B.levels.length:=by omega
 have hxA:x<A.levels.length:=by omega
 have eB:=qbu hxB
 have eA:=qbu hxA
 have k1:B.levels[x]≠30000:=by
  have:=hun x hxm
  unfold qBi at this
  rw[decide_eq_false_iff_not,eB]at this
  exact this
 have k2:=c41 B (by omega) x hxB
 rw[decide_eq_false k1]at k2
 have k3:=hgu x hxm
 have k4:=qBX A hokA x hxA
 repeat'(first|refine zQ ?_|(refine zI ?_;intro hlt)|(refine zC ?_ ?_<;>first|intro h|simp)|fail)
 all_goals try exact absurd hK (by omega)
 refine qaf s.zones.length (fun j=>⟨[(12,.int .i64 j),(11,.int .i64 x),(10,.int .i64 k),(9,.sl (XS.map qcX)),(8,.sl (ST.map qbH)),(5,.int .i64 i),(1,.sl (l.map encCut)),(2,.op 0 0 0),(6,.op 1 0 0),(7,.op 2 0 0)],[(0,⟨12,true,[encSite s]⟩),(1,⟨6,false,[encGrid B]⟩),(2,⟨6,false,[encGrid A]⟩)],96,147⟩) (fun j=>True) ?_ trivial ?_
 ·subst hX
  exact qaa (nx:=96) (k:=0) (ns:=[]) (ks:=[12,11,10,9,8,5,1,2,6,7]) [(0,0),(1,1),(2,2)] rfl (by simp) (by kernel_rfl)
 intro j hj _
 by_cases hJ:j<s.zones.length
 ·have z1:=qBa s.bed ok.bed x hx s.zones[j] (hz10.2 j hJ)
  rw[qLY k3 hJ]at z1
  repeat'(first|refine zQ ?_|refine zF z1 ?_|(refine zI ?_;intro hlt)|(refine zC ?_ ?_<;>first|intro h|simp)|fail)
  all_goals first
   |exact absurd hJ (by omega)
   |exact⟨hJ,trivial,qaa (nx:=96) (k:=0) (ns:=[]) (ks:=[12,11,10,9,8,5,1,2,6,7]) [(0,0),(1,1),(2,2)] rfl (by simp) (by kernel_rfl)⟩
   |(exfalso;simp at *;done)
   |trace_state
 ·by_cases hm:x∈LO
  rotate_left
  ·have eAB:A.levels[x]=B.levels[x]:=by
    have:=(hlvA x hxB).2 hm
    omega
   repeat'(first|refine zQ ?_|refine zF k2 ?_|(refine zI ?_;intro hlt)|(refine zC ?_ ?_<;>first|intro h|simp)|fail)
   all_goals first
    |exact absurd hJ (by omega)
    |exact⟨hK,trivial,qaa (nx:=96) (k:=0) (ns:=[]) (ks:=[10,9,8,5,1,2,6,7]) [(0,0),(1,1),(2,2)] rfl (by simp) (by kernel_rfl)⟩
    |(exfalso;omega)
    |(exfalso;simp at *;done)
    |trace_state
  ·have eAl:=(hlvA x hxB).1 hm
   have hlt:=hlom x hm
   repeat'(first|refine zQ ?_|refine zF k2 ?_|(refine zI ?_;intro hlt)|(refine zC ?_ ?_<;>first|intro h|simp)|fail)
   all_goals first
    |exact absurd hJ (by omega)
    |(exfalso;omega)
    |(exfalso;simp at *;done)
    |skip
   refine qaf s.quays.length (fun j=>⟨[(13,.int .i64 j),(11,.int .i64 x),(10,.int .i64 k),(9,.sl (XS.map qcX)),(8,.sl (ST.map qbH)),(5,.int .i64 i),(1,.sl (l.map encCut)),(2,.op 0 0 0),(6,.op 1 0 0),(7,.op 2 0 0)],[(0,⟨12,true,[encSite s]⟩),(1,⟨6,false,[encGrid B]⟩),(2,⟨6,false,[encGrid A]⟩)],96,147⟩) (fun j=>True) ?_ trivial ?_
   ·exact qaa (nx:=96) (k:=0) (ns:=[]) (ks:=[13,11,10,9,8,5,1,2,6,7]) [(0,0),(1,1),(2,2)] rfl (by simp) (by kernel_rfl)
   intro q hq _
   by_cases hQ:q<s.quays.length
   ·have q1:=r_W q hQ x hxA
    have q2:=qMg (hqu x hm) hQ
    generalize qil s.quays[q] s.bed x=w at*
    repeat'(first|refine zQ ?_|refine zF k4 ?_|refine zF q1 ?_|(refine zI ?_;intro hlt)|(refine zC ?_ ?_<;>first|intro h|simp)|(refine zG ?_ ?_<;>first|intro h|simp)|refine zE ?_|fail)
    all_goals first
     |exact absurd hQ (by omega)
     |exact⟨hQ,trivial,qaa (nx:=96) (k:=0) (ns:=[]) (ks:=[13,11,10,9,8,5,1,2,6,7]) [(0,0),(1,1),(2,2)] rfl (by simp) (by kernel_rfl)⟩
     |(exfalso;have:=q2 (by assumption);omega)
     |(exfalso;omega)
     |(exfalso;simp at *;done)
     |trace_state
   ·repeat'(first|refine zQ ?_|(refine zI ?_;intro hlt)|(refine zC ?_ ?_<;>first|intro h|simp)|fail)
    all_goals try exact absurd (show q<s.quays.length by omega) hQ
    refine qaf ST.length (fun j=>⟨[(15,.int .i64 j),(11,.int .i64 x),(10,.int .i64 k),(9,.sl (XS.map qcX)),(8,.sl (ST.map qbH)),(5,.int .i64 i),(1,.sl (l.map encCut)),(2,.op 0 0 0),(6,.op 1 0 0),(7,.op 2 0 0)],[(0,⟨12,true,[encSite s]⟩),(1,⟨6,false,[encGrid B]⟩),(2,⟨6,false,[encGrid A]⟩)],96,147⟩) (fun j=>True) ?_ trivial ?_
    ·exact qaa (nx:=96) (k:=0) (ns:=[]) (ks:=[15,11,10,9,8,5,1,2,6,7]) [(0,0),(1,1),(2,2)] rfl (by simp) (by kernel_rfl)
    intro p hp' _
    by_cases hP':p<ST.length
    ·obtain⟨t1,t2⟩:=qME hm (hst ST[p] (List.getElem_mem hP'))
     repeat'(first|refine zQ ?_|(refine zI ?_;intro hlt)|(refine zC ?_ ?_<;>first|intro h|simp)|(refine zG ?_ ?_<;>first|intro h|simp)|refine zE ?_|fail)
     all_goals first
      |exact absurd hP' (by omega)
      |exact⟨hP',trivial,qaa (nx:=96) (k:=0) (ns:=[]) (ks:=[15,11,10,9,8,5,1,2,6,7]) [(0,0),(1,1),(2,2)] rfl (by simp) (by kernel_rfl)⟩
      |(exfalso;simp at *;done)
      |(exfalso;exact absurd (by assumption) t1)
      |(exfalso;exact absurd (by assumption) t2)
      |(exfalso;omega)
      |trace_state
    ·repeat'(first|refine zQ ?_|(refine zI ?_;intro hlt)|(refine zC ?_ ?_<;>first|intro h|simp)|(refine zG ?_ ?_<;>first|intro h|simp)|refine zE ?_|fail)
     all_goals first
      |exact absurd hP' (by omega)
      |exact⟨hK,trivial,qaa (nx:=96) (k:=0) (ns:=[]) (ks:=[10,9,8,5,1,2,6,7]) [(0,0),(1,1),(2,2)] rfl (by simp) (by kernel_rfl)⟩
      |trace_state
end Go.Pv.Soil

import Derived.Test.YtfklpkgdobdbpaaGreatCBT
/- Part of the proofs over YtfklpkgdobdbpaaGreat: N42. -/
set_option linter.unusedVariables false
set_option linter.unusedSimpArgs false
set_option linter.unnecessarySimpa false
open Go Go.Proofs Go.Pv
set_option maxHeartbeats 8000000
set_option maxRecDepth 100000
set_option linter.unusedSimpArgs false
set_option linter.unusedVariables false
namespace Go.Pv.Soil
theorem qAy{α:Type}{f:α→List D}{h:Nat→Option Blk}{b len k:Nat}{l:List α}{d d' e e':D}{ds rs:List D}(hd:pur h 63 d=some d')(he:pur h 62 e=some e')(hb:h b=some ⟨k,true,l.map f⟩)(hl:len=l.length)(hr:qbX h 61 ds=some rs):qbX h 64 (d::e:: .os b 0 len::ds)=some (d'::e':: .sl (l.map f)::rs):=by
 have e2:qbX h 62 (.os b 0 len::ds)=some (.sl (l.map f)::rs):=by
  show(pur h 61 _).bind _=_
  rw[qdY (m:=60) hb hl]
  simp only[Option.bind_some,hr,Option.map_some]
 have e1:qbX h 63 (e:: .os b 0 len::ds)=some (e':: .sl (l.map f)::rs):=by
  show(pur h 62 _).bind _=_
  rw[he]
  simp only[Option.bind_some,e2,Option.map_some]
 show(pur h 63 _).bind _=_
 rw[hd]
 simp only[Option.bind_some,e1,Option.map_some]
theorem qBQ{s:Site}(hs:OkSite s)(h100:s.bed.levels.length≤100){l:List Cut}(hl:∀i (hi:i<l.length),OkCut s l[i]):∀n,n≤l.length→(∀k,k<n→qvi s l k=none)→0≤prS s l n∧prS s l n≤100000000000000*(n:Int)
 |0,_,_=>by simp[prS]
 |n+1,hn,h=>by
  have ih:=qBQ hs h100 hl n (by omega) fun k hk=>h k (by omega)
  have hv:=h n (by omega)
  have hL:n<l.length:=by omega
  rw[qjq hL]at hv
  have hok:=qgE hs hl n
  have hlen:=hok.len hs.bed
  split at hv
  ·cases hv
  ·split at hv
   ·cases hv
   ·have:=(qG8 hs hok (by omega) (hl n hL) hv).2
    simp only[prS,qtA hL]
    omega
noncomputable def spR(s:Site)(l:List Cut):List (Int×Int):=if(qbb s l l.length).isSome then []else spL s l l.length
noncomputable def prR(s:Site)(l:List Cut):Int:=if(qbb s l l.length).isSome then 0 else prS s l l.length
theorem qrG(s:Site)(hz:Sized s)(hs:OkSite s)(h100:s.bed.levels.length≤100)(l:List Cut)(hll:l.length≤40)(hl:∀i (hi:i<l.length),OkCut s l[i]):
  Contract Tryz.prog 150 [.agg (encSite s),.sl (l.map encCut)] (.ret (.tup [.agg (qyo (qbb s l l.length)),.bool (qbb s l l.length).isSome,.sl ((spR s l).map qiD),.int .i64 (prR s l)])):=by
 refine zT mix Tryz.func150 Tryz.ntmps150 Tryz.results150 rfl rfl rfl ?_;simp only[qab,Nat.reduceAdd]
 repeat'(first|refine zQ ?_|fail)
 refine qad l.length (fun i=>⟨[(6,.os 1 0 (spL s l i).length),(21,.int .i64 i),(20,.int .i64 l.length),(19,.sl (l.map encCut)),(1,.sl (l.map encCut)),(2,.op 0 0 0),(4,.op 2 0 0),(8,.op 3 0 0),(7,.int .i64 (prS s l i))],[(1,⟨2,true,(spL s l i).map qiD⟩),(0,⟨12,true,[encSite s]⟩),(2,⟨3,true,[[.int .i64 0,.int .i64 0,.int .i64 0]]⟩),(3,⟨6,false,[qag (qcz s l i)]⟩)],128,97⟩) (fun i=>∀k,k<i→qvi s l k=none) ?_ (by omega) ?_
 ·exact qaa (nx:=128) (k:=2) (ns:=[(6,1)]) (ks:=[21,20,19,1,2,4,8,7]) [(0,0),(32,2),(224,3)] rfl (by simp;rfl) (by kernel_rfl)
 intro i hi hC
 by_cases hL:i<l.length
 rotate_left
 ·obtain rfl:i=l.length:=by omega
  have e0:=qfX hC
  unfold spR prR
  rw[e0]
  repeat'(first|refine zQ ?_|(refine zI ?_;intro hlt)|(refine zC ?_ ?_<;>first|intro h|simp)|fail)
  all_goals first
   |exact absurd (show l.length<l.length by omega) hL
   |exact qtz rfl rfl rfl rfl rfl rfl (qdY (f:=qiD) (m:=63) rfl rfl) rfl
   |trace_state
 have hpr:=qBQ hs h100 hl i hi hC
 have hok:=qgE hs hl i
 have hlen:=hok.len hs.bed
 have hci:=hl i hL
 obtain⟨ha,hlt,hpos,hle⟩:=qbm hs.bed hci
 have hsl:=qhI s l i
 have k1:Contract Tryz.prog 183 [.agg (encSite s),.agg (qag (qcz s l i)),.agg (encCut l[i])] (.ret (.agg (qiD (spE s l i)))):=by rw[qBP hL];exact qp1 s hs hz (qcz s l i) hok (by omega) l[i] hci
 have k2:=qeG s hs.bed l[i] hci
 have k3:=qyn s hs.bed l (by omega) hl (spL s l (i+1)) i hL (by rw[qhI];omega)
 have k4:=qiB s hz hs (qcz s l i) hok (by omega) l[i] hci
 have k5:Contract Tryz.prog 123 [.agg (encSite s),.agg (qag (qcz s l i)),.agg (encCut l[i])] (.ret (.tup [.int .i64 (qcq s (qcz s l i) l[i]).1,.int .i64 (qcq s (qcz s l i) l[i]).2.1,.bool (qcq s (qcz s l i) l[i]).2.2])):=qiz s hs hz (qcz s l i) hok (by omega) l[i] hci
 have k6:=qiw s hs.bed (qcz s l i) hok l[i] hci
 have hV:=qjq (s:=s) hL
 have hF:∀r c,qvi s l i=some (r,c)→qbb s l l.length=some (i,r,c):=fun r c h=>qeM hC h hL
 have hsu:=qAx s l i
 rw[←qe1 hL]at k6
 have hpe:=qtA (s:=s) hL
 have hps:prS s l (i+1)=prS s l i+prE s l i:=rfl
 rw[qoq hpos]at hV
 repeat'(first|refine zQ ?_|refine zF k1 ?_|(refine zI ?_;intro hlt)|(refine zC ?_ ?_<;>first|intro h|simp)|fail)
 all_goals try exact absurd hL (by omega)
 refine qaH (f:=qiD) (a:=spE s l i) (l:=spL s l i) qFv rfl rfl rfl rfl rfl rfl (by kernel_rfl) (by kernel_rfl) (by omega) rfl ?_
 have el:(spL s l i).length+1=(spL s l (i+1)).length:=by rw[hsu];simp
 simp only[hsu.symm,el]
 clear k1 hsu
 generalize hsp:spL s l (i+1)=sq at*
 generalize spL s l i=sp0 at*
 generalize crossE s l sq i=cr at*
 generalize qcz s l (i+1)=g2 at*
 by_cases h9:0<i∧qfd l i<qfd l (i-1)
 ·rw[if_pos h9]at hV
  have hF:=hF _ _ hV
  unfold spR prR
  rw[hF]
  rw[qdN hL,qdN (show i-1<l.length by omega)]at h9
  have hi1:((i:Int)-1).toNat=i-1:=by omega
  repeat'(first|refine zQ ?_|refine zF k2 ?_|(refine zI ?_;intro hlt)|(refine zC ?_ ?_<;>first|intro h|simp)|(refine zG ?_ ?_<;>first|intro h|simp)|fail)
  all_goals try simp only[hi1]at*
  all_goals first
   |exact qtz rfl rfl rfl rfl rfl rfl rfl rfl
   |(exfalso;omega)
   |trace_state
 ·rw[if_neg h9]at hV
  have h9':¬(0<i∧l[i].start<(l[i-1]'(by omega)).start):=by
   rw[qdN hL,qdN (show i-1<l.length by omega)]at h9
   exact h9
  repeat'(first|refine zQ ?_|refine zF k2 ?_|(refine zI ?_;intro hlt)|(refine zC ?_ ?_<;>first|intro h|simp)|(refine zG ?_ ?_<;>first|intro h|simp)|fail)
  all_goals try(exfalso;refine h9' ⟨by omega,?_⟩;rename_i h1 h2;have hi1:((i:Int)-1).toNat=i-1:=(by omega);simp only[hi1]at *;assumption)
  all_goals refine qae (qAy (f:=qiD) rfl rfl rfl rfl rfl) k3 rfl ?_
  all_goals
   cases cr
   ·rw[if_neg (by simp)]at hV
    generalize ho:qfg s (qcz s l i) l[i]=o at*
    cases o with
    |some v=>
     obtain⟨r,ce⟩:=v
     have hF:=hF _ _ hV
     unfold spR prR
     rw[hF]
     repeat'(first|refine zQ ?_|refine zF k4 ?_|fail)
     all_goals first
      |exact qtz rfl rfl rfl rfl rfl rfl rfl rfl
      |exact absurd (show true=false by assumption) (by decide)
      |exact absurd (show false=true by assumption) (by decide)
      |trace_state
    |none=>
     have hfa:=(qG8 hs hok (by omega) hci ho).2
     rw[←hpe]at hfa k5
     repeat'(first|refine zQ ?_|refine zF k4 ?_|refine zF k5 ?_|refine zF k6 ?_|fail)
     all_goals first
      |exact absurd (show true=false by assumption) (by decide)
      |exact absurd (show false=true by assumption) (by decide)
      |(refine⟨hL,fun k hk=>?_,?_⟩
        ·rcases Nat.lt_succ_iff_lt_or_eq.1 hk with h'|rfl
         ·exact hC k h'
         ·exact hV
        ·rw[hps]
         exact qaa (nx:=128) (k:=2) (ns:=[]) (ks:=[6,21,20,19,1,2,4,8,7]) [(1,1),(0,0),(2,2),(3,3)] rfl (by simp) (by kernel_rfl))
      |trace_state
   ·rw[if_pos rfl]at hV
    have hF:=hF _ _ hV
    unfold spR prR
    rw[hF]
    repeat'(first|refine zQ ?_|fail)
    all_goals first
     |exact qtz rfl rfl rfl rfl rfl rfl rfl rfl
     |exact absurd (show true=false by assumption) (by decide)
     |exact absurd (show false=true by assumption) (by decide)
     |trace_state
end Go.Pv.Soil

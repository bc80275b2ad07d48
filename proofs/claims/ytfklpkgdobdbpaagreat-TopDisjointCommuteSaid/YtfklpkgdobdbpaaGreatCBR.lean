import Derived.Test.YtfklpkgdobdbpaaGreatCBO
import Derived.Test.YtfklpkgdobdbpaaGreatCBP
import Derived.Test.YtfklpkgdobdbpaaGreatCBQ
/- Part of the proofs over YtfklpkgdobdbpaaGreat: S11, N40, N41, N42, N43, N45, N51, N52. -/
set_option linter.unusedVariables false
set_option linter.unusedSimpArgs false
set_option linter.unnecessarySimpa false
open Go Go.Proofs Go.Pv
set_option maxHeartbeats 8000000
set_option maxRecDepth 100000
set_option linter.unusedSimpArgs false
set_option linter.unusedVariables false
namespace Go.Pv.Soil
theorem qr5{P:Program}{env:List (Nat×D)}{hp:List (Nat×Blk)}{nx n:Nat}{v1 v2 v3 v4:ResultVar}{d1 r1 d2 r2 d3 r3 d4 r4:D}(h1:qb6 P ⟨env,hp,nx,n⟩ v1=some d1)(h2:qb6 P ⟨env,hp,nx,n⟩ v2=some d2)(h3:qb6 P ⟨env,hp,nx,n⟩ v3=some d3)(h4:qb6 P ⟨env,hp,nx,n⟩ v4=some d4)
  (p1:pur (lkH hp) 64 d1=some r1) (p2:pur (lkH hp) 64 d2=some r2) (p3:pur (lkH hp) 64 d3=some r3) (p4:pur (lkH hp) 64 d4=some r4):qg0 P [v1,v2,v3,v4] (.ret (.tup [r1,r2,r3,r4])) .ret ⟨env,hp,nx,n⟩:=by
 refine⟨_,rfl,.inl ⟨[.pure,.pure,.pure,.pure],[d1,d2,d3,d4],[r1,r2,r3,r4],by simp[h1,h2,h3,h4],by simp[qbq],⟨?_,?_,?_,?_,trivial⟩,rfl,fun hh=>by simp at hh⟩⟩
 ·show pur (qbf [] (lkH hp)) 64 d1=some r1
  rw[qcP];exact p1
 ·show pur (qbf [] (lkH hp)) 64 d2=some r2
  rw[qcP];exact p2
 ·show pur (qbf [] (lkH hp)) 64 d3=some r3
  rw[qcP];exact p3
 ·show pur (qbf [] (lkH hp)) 64 d4=some r4
  rw[qcP];exact p4
def spE(s:Site)(l:List Cut)(i:Nat):Int×Int:=match l[i]? with
 |some c=>(c.start,c.start+(qbR s (qeu s l i) c).1)
 |none=>(0,0)
def prE(s:Site)(l:List Cut)(i:Nat):Int:=match l[i]? with
 |some c=>(qbR s (qeu s l i) c).2.1
 |none=>0
def spL(s:Site)(l:List Cut)(k:Nat):List (Int×Int):=(List.range k).map (spE s l)
def prS(s:Site)(l:List Cut):Nat→Int
 |0=>0
 |k+1=>prS s l k+prE s l k
theorem qDs{s:Site}{l:List Cut}{i:Nat}(h:i<l.length):spE s l i=(l[i].start,l[i].start+(qbR s (qeu s l i) l[i]).1):=by simp only[spE,List.getElem?_eq_getElem h]
theorem qzJ{s:Site}{l:List Cut}{i:Nat}(h:i<l.length):prE s l i=(qbR s (qeu s l i) l[i]).2.1:=by simp only[prE,List.getElem?_eq_getElem h]
theorem qyF(s:Site)(l:List Cut)(k:Nat):spL s l (k+1)=spL s l k++[spE s l k]:=by unfold spL;rw[List.range_succ,List.map_append];rfl
theorem qwG(s:Site)(l:List Cut)(k:Nat):(spL s l k).length=k:=by simp[spL]
def qgd(l:List Cut)(k:Nat):Int:=match l[k]? with
 |some c=>c.start
 |none=>0
theorem qgz{l:List Cut}{k:Nat}(h:k<l.length):qgd l k=l[k].start:=by simp only[qgd,List.getElem?_eq_getElem h]
noncomputable def qyG(s:Site)(l:List Cut)(k:Nat):Option (Int×Int):=match l[k]? with
 |some c=>if 0<k∧qgd l k<qgd l (k-1)then some (9,(qo9 s c:Int))else if crossE s l (spL s l (k+1)) k=true then some (18,(qo9 s c:Int))else qiO s (qeu s l k) c
 |none=>none
theorem qwH{s:Site}{l:List Cut}{k:Nat}(h:k<l.length):qyG s l k=if 0<k∧qgd l k<qgd l (k-1)then some (9,(qo9 s l[k]:Int))else if crossE s l (spL s l (k+1)) k=true then some (18,(qo9 s l[k]:Int))else qiO s (qeu s l k) l[k]:=by simp only[qyG,List.getElem?_eq_getElem h]
noncomputable def qcv(s:Site)(l:List Cut):Nat→Option (Nat×Int×Int)
 |0=>none
 |k+1=>(qcv s l k).or ((qyG s l k).map fun v=>(k,v.1,v.2))
theorem qhn{s:Site}{l:List Cut}:∀{n:Nat},(∀k,k<n→qyG s l k=none)→qcv s l n=none
 |0,_=>rfl
 |n+1,h=>by
  rw[qcv,qhn fun k hk=>h k (by omega),h n (by omega)];rfl
theorem qk8{s:Site}{l:List Cut}{k:Nat}{r c:Int}(hC:∀j,j<k→qyG s l j=none)(h:qyG s l k=some (r,c)):∀{n:Nat},k<n→qcv s l n=some (k,r,c)
 |0,h0=>by omega
 |n+1,hn=>by
  rw[qcv]
  rcases Nat.lt_succ_iff_lt_or_eq.1 hn with h'|rfl
  ·rw[qk8 hC h h'];rfl
  ·rw[qhn hC,h];rfl
def qBy:Option (Nat×Int×Int)→List D
 |none=>[.int .i64 0,.int .i64 0,.int .i64 0]
 |some (k,r,c)=>[.int .i64 k,.int .i64 c,.int .i64 r]
theorem qIk{s:Site}(hs:OkSite s){b:Grid}(hb:OkBed s b)(h100:b.levels.length≤100){c:Cut}(hc:OkCut s c)(h:qiO s b c=none):((qbR s b c).1≤3000∧c.start+(qbR s b c).1≤1000001)∧(0≤(qbR s b c).2.1∧(qbR s b c).2.1≤100000000000000):=by
 have hef:=qjI hs hb h100 hc
 have hm:(qbR s b c).1≤3000∧c.start+(qbR s b c).1≤1000001:=by
  unfold qiO qeD at h
  simp only[qwo]at h
  obtain⟨⟨-,-,-,-,-,h8⟩,-⟩:=h
  by_cases h9:c.start+(qbR s b c).1-c.start≤3000∧c.start+(qbR s b c).1≤1000001
  ·omega
  ·rw[if_neg h9]at h8;cases h8
 refine⟨hm,hef.2.1,?_⟩
 have hv:=qkZ hs.gr hs.bed hb h100 hc
 have hD:=hs.dredOf hc
 have hlen:(qbb s b c).length≤8:=by rw[qh6];exact qe0 (okG hs.gr)
 obtain⟨⟨hm1,-⟩,hm0,-⟩:=And.intro hm hef.1
 unfold qbR qjb at hm1 hm0 ⊢
 by_cases hmi:qto (dredOf s c.dredger) (qbb s b c)=true
 ·rw[if_pos hmi];simp
 ·rw[if_neg hmi]at hm1 hm0 ⊢
  simp only at hm1 hm0 ⊢
  have h2:=(qmg hD hv (qbb s b c).length (Nat.le_refl _) fun j hj hj' h0=>by
   rcases Int.lt_or_le (qgD (dredOf s c.dredger) (qbb s b c)[j].soil) 0 with h|h
   ·exact absurd (List.any_eq_true.2 ⟨_,List.getElem_mem hj',by rw[Bool.and_eq_true,decide_eq_true_eq,decide_eq_true_eq];exact⟨h0,h⟩⟩) hmi
   ·exact h).2
  rw[List.take_length]at h2
  have hh:=hD.n.2.2.2.2.2
  have h3:=qbx (a:=qhq (dredOf s c.dredger) (qbb s b c)) (b:=(dredOf s c.dredger).hour) (m:=3000) (n:=1000000) ⟨hm0,hm1⟩ hh
  have h4:=(qkV (a:=qhq (dredOf s c.dredger) (qbb s b c)*(dredOf s c.dredger).hour) (b:=60) (by omega) h3.1).2
  omega
theorem qyH{α:Type}{f:α→List D}{h:Nat→Option Blk}{b len k:Nat}{l:List α}{d d' e e':D}{ds rs:List D}(hd:pur h 63 d=some d')(he:pur h 62 e=some e')(hb:h b=some ⟨k,true,l.map f⟩)(hl:len=l.length)(hr:qbQ h 61 ds=some rs):qbQ h 64 (d::e:: .os b 0 len::ds)=some (d'::e':: .sl (l.map f)::rs):=by
 have e2:qbQ h 62 (.os b 0 len::ds)=some (.sl (l.map f)::rs):=by
  show(pur h 61 _).bind _=_
  rw[qel (m:=60) hb hl]
  simp only[Option.bind_some,hr,Option.map_some]
 have e1:qbQ h 63 (e:: .os b 0 len::ds)=some (e':: .sl (l.map f)::rs):=by
  show(pur h 62 _).bind _=_
  rw[he]
  simp only[Option.bind_some,e2,Option.map_some]
 show(pur h 63 _).bind _=_
 rw[hd]
 simp only[Option.bind_some,e1,Option.map_some]
theorem qzK{s:Site}(hs:OkSite s)(h100:s.bed.levels.length≤100){l:List Cut}(hl:∀i (hi:i<l.length),OkCut s l[i]):∀n,n≤l.length→(∀k,k<n→qyG s l k=none)→0≤prS s l n∧prS s l n≤100000000000000*(n:Int)
 |0,_,_=>by simp[prS]
 |n+1,hn,h=>by
  have ih:=qzK hs h100 hl n (by omega) fun k hk=>h k (by omega)
  have hv:=h n (by omega)
  have hL:n<l.length:=by omega
  rw[qwH hL]at hv
  have hok:=qpa hs hl n
  have hlen:=hok.len hs.bed
  split at hv
  ·cases hv
  ·split at hv
   ·cases hv
   ·have:=(qIk hs hok (by omega) (hl n hL) hv).2
    simp only[prS,qzJ hL]
    omega
noncomputable def spR(s:Site)(l:List Cut):List (Int×Int):=if(qcv s l l.length).isSome then []else spL s l l.length
noncomputable def prR(s:Site)(l:List Cut):Int:=if(qcv s l l.length).isSome then 0 else prS s l l.length
theorem qqp(s:Site)(hz:Sized s)(hs:OkSite s)(h100:s.bed.levels.length≤100)(l:List Cut)(hll:l.length≤40)(hl:∀i (hi:i<l.length),OkCut s l[i]):
  Contract Tryz.prog 150 [.agg (encSite s),.sl (l.map encCut)] (.ret (.tup [.agg (qBy (qcv s l l.length)),.bool (qcv s l l.length).isSome,.sl ((spR s l).map qlv),.int .i64 (prR s l)])):=by
 refine zT mix Tryz.func150 Tryz.ntmps150 Tryz.results150 rfl rfl rfl ?_;simp only[qac,Nat.reduceAdd]
 repeat'(first|refine zQ ?_|fail)
 refine qaf l.length (fun i=>⟨[(6,.os 1 0 (spL s l i).length),(21,.int .i64 i),(20,.int .i64 l.length),(19,.sl (l.map encCut)),(1,.sl (l.map encCut)),(2,.op 0 0 0),(4,.op 2 0 0),(8,.op 3 0 0),(7,.int .i64 (prS s l i))],[(1,⟨2,true,(spL s l i).map qlv⟩),(0,⟨12,true,[encSite s]⟩),(2,⟨3,true,[[.int .i64 0,.int .i64 0,.int .i64 0]]⟩),(3,⟨6,false,[encGrid (qeu s l i)]⟩)],128,97⟩) (fun i=>∀k,k<i→qyG s l k=none) ?_ (by omega) ?_
 ·exact qaa (nx:=128) (k:=2) (ns:=[(6,1)]) (ks:=[21,20,19,1,2,4,8,7]) [(0,0),(32,2),(224,3)] rfl (by simp;rfl) (by kernel_rfl)
 intro i hi hC
 by_cases hL:i<l.length
 rotate_left
 ·obtain rfl:i=l.length:=by omega
  have e0:=qhn hC
  unfold spR prR
  rw[e0]
  repeat'(first|refine zQ ?_|(refine zI ?_;intro hlt)|(refine zC ?_ ?_<;>first|intro h|simp)|fail)
  all_goals first
   |exact absurd (show l.length<l.length by omega) hL
   |exact qr5 rfl rfl rfl rfl rfl rfl (qel (f:=qlv) (m:=63) rfl rfl) rfl
   |trace_state
 have hpr:=qzK hs h100 hl i hi hC
 have hok:=qpa hs hl i
 have hlen:=hok.len hs.bed
 have hci:=hl i hL
 obtain⟨ha,hlt,hpos,hle⟩:=qby hs.bed hci
 have hsl:=qwG s l i
 have k1:Contract Tryz.prog 183 [.agg (encSite s),.agg (encGrid (qeu s l i)),.agg (encCut l[i])] (.ret (.agg (qlv (spE s l i)))):=by rw[qDs hL];exact qoW s hs hz (qeu s l i) hok (by omega) l[i] hci
 have k2:=qdv s hs.bed l[i] hci
 have k3:=qwF s hs.bed l (by omega) hl (spL s l (i+1)) i hL (by rw[qwG];omega)
 have k4:=qh7 s hz hs (qeu s l i) hok (by omega) l[i] hci
 have k5:Contract Tryz.prog 123 [.agg (encSite s),.agg (encGrid (qeu s l i)),.agg (encCut l[i])] (.ret (.tup [.int .i64 (qbR s (qeu s l i) l[i]).1,.int .i64 (qbR s (qeu s l i) l[i]).2.1,.bool (qbR s (qeu s l i) l[i]).2.2])):=qgw s hs hz (qeu s l i) hok (by omega) l[i] hci
 have k6:=qf4 s hs.bed (qeu s l i) hok l[i] hci
 have hV:=qwH (s:=s) hL
 have hF:∀r c,qyG s l i=some (r,c)→qcv s l l.length=some (i,r,c):=fun r c h=>qk8 hC h hL
 have hsu:=qyF s l i
 rw[←qfr hL]at k6
 have hpe:=qzJ (s:=s) hL
 have hps:prS s l (i+1)=prS s l i+prE s l i:=rfl
 rw[qnn hpos]at hV
 repeat'(first|refine zQ ?_|refine zF k1 ?_|(refine zI ?_;intro hlt)|(refine zC ?_ ?_<;>first|intro h|simp)|fail)
 all_goals try exact absurd hL (by omega)
 refine qaE (f:=qlv) (a:=spE s l i) (l:=spL s l i) qDr rfl rfl rfl rfl rfl rfl (by kernel_rfl) (by kernel_rfl) (by omega) rfl ?_
 have el:(spL s l i).length+1=(spL s l (i+1)).length:=by rw[hsu];simp
 simp only[hsu.symm,el]
 clear k1 hsu
 generalize hsp:spL s l (i+1)=sq at*
 generalize spL s l i=sp0 at*
 generalize crossE s l sq i=cr at*
 generalize qeu s l (i+1)=g2 at*
 by_cases h9:0<i∧qgd l i<qgd l (i-1)
 ·rw[if_pos h9]at hV
  have hF:=hF _ _ hV
  unfold spR prR
  rw[hF]
  rw[qgz hL,qgz (show i-1<l.length by omega)]at h9
  have hi1:((i:Int)-1).toNat=i-1:=by omega
  repeat'(first|refine zQ ?_|refine zF k2 ?_|(refine zI ?_;intro hlt)|(refine zC ?_ ?_<;>first|intro h|simp)|(refine zG ?_ ?_<;>first|intro h|simp)|fail)
  all_goals try simp only[hi1]at*
  all_goals first
   |exact qr5 rfl rfl rfl rfl rfl rfl rfl rfl
   |(exfalso;omega)
   |trace_state
 ·rw[if_neg h9]at hV
  have h9':¬(0<i∧l[i].start<(l[i-1]'(by omega)).start):=by
   rw[qgz hL,qgz (show i-1<l.length by omega)]at h9
   exact h9
  repeat'(first|refine zQ ?_|refine zF k2 ?_|(refine zI ?_;intro hlt)|(refine zC ?_ ?_<;>first|intro h|simp)|(refine zG ?_ ?_<;>first|intro h|simp)|fail)
  all_goals try(exfalso;refine h9' ⟨by omega,?_⟩;rename_i h1 h2;have hi1:((i:Int)-1).toNat=i-1:=(by omega);simp only[hi1]at *;assumption)
  all_goals refine qad (qyH (f:=qlv) rfl rfl rfl rfl rfl) k3 rfl ?_
  all_goals
   cases cr
   ·rw[if_neg (by simp)]at hV
    generalize ho:qiO s (qeu s l i) l[i]=o at*
    cases o with
    |some v=>
     obtain⟨r,ce⟩:=v
     have hF:=hF _ _ hV
     unfold spR prR
     rw[hF]
     repeat'(first|refine zQ ?_|refine zF k4 ?_|fail)
     all_goals first
      |exact qr5 rfl rfl rfl rfl rfl rfl rfl rfl
      |exact absurd (show true=false by assumption) (by decide)
      |exact absurd (show false=true by assumption) (by decide)
      |trace_state
    |none=>
     have hfa:=(qIk hs hok (by omega) hci ho).2
     rw[←hpe]at hfa k5
     repeat'(first|refine zQ ?_|refine zF k4 ?_|refine zF k5 ?_|refine zF k6 ?_|fail)
     all_goals first
      |exact absurd (show true=false by assumption) (by decide)
      |exact absurd (show false=true by assumption) (by decide)
      |(refine⟨hL,fun k hk=>?_,?_⟩
        ·rcases Nat.lt_succ_iff_lt_or_eq.1 hk with h'|rfl
         ·exact hC k h'
         ·exact hV
        ·rw[hps]
         exact qaa (nx:=128) (k:=2) (ns:=[]) (ks:=[6,21,20,19,1,2,4,8,7]) [(1,1),(0,0),(2,2),(3,3)] rfl (by simp) (by kernel_rfl))
      |trace_state
   ·rw[if_pos rfl]at hV
    have hF:=hF _ _ hV
    unfold spR prR
    rw[hF]
    repeat'(first|refine zQ ?_|fail)
    all_goals first
     |exact qr5 rfl rfl rfl rfl rfl rfl rfl rfl
     |exact absurd (show true=false by assumption) (by decide)
     |exact absurd (show false=true by assumption) (by decide)
     |trace_state
noncomputable def qk9(s:Site)(l:List Cut):Option (Nat×Int×Int):=if qde s l=0 then qcv s l l.length else none
theorem qla(o:Option (Nat×Int×Int)):∃x y z,qBy o=[.int .i64 x,.int .i64 y,.int .i64 z]:=by
 cases o with
 |none=>exact⟨_,_,_,rfl⟩
 |some v=>exact⟨_,_,_,rfl⟩
theorem qwI(s:Site)(hz:Sized s)(hd:s.dreds.length<1000000000000)(h100:s.bed.levels.length≤100)(l:List Cut)(hl:l.length≤9223372036854775807):Contract Tryz.prog 69 [.agg (encSite s),.sl (l.map encCut)] (.ret (.tup [.agg (qBy (qk9 s l)),.bool (qk9 s l).isSome,.int .i64 (qde s l)])):=by
 have h1:=qcm s hz l hl hd
 unfold qk9
 by_cases h0:qde s l=0
 ·rw[if_pos h0]
  obtain⟨hll,hl2⟩:=qfp h0
  have h2:=qqp s hz (qd4 h0).1 h100 l hll hl2
  rw[h0]at h1 ⊢
  generalize qcv s l l.length=o at*
  generalize spR s l=sr at*
  generalize prR s l=pr at*
  obtain⟨x,y,z,hv⟩:=qla o
  rw[hv]at h2 ⊢
  refine zT mix Tryz.func69 Tryz.ntmps69 Tryz.results69 rfl rfl rfl ?_;simp only[qac,Nat.reduceAdd]
  repeat'(first|refine zQ ?_|refine zF h1 ?_|refine zF h2 ?_|refine zE ?_|fail)
  all_goals first
   |rfl
   |(exfalso;simp at *;done)
   |trace_state
 ·rw[if_neg h0]
  generalize qde s l=q at*
  refine zT mix Tryz.func69 Tryz.ntmps69 Tryz.results69 rfl rfl rfl ?_;simp only[qac,Nat.reduceAdd]
  repeat'(first|refine zQ ?_|refine zF h1 ?_|(refine zC ?_ ?_<;>first|intro h|simp)|refine zE ?_|fail)
  all_goals first
   |rfl
   |(exfalso;omega)
   |trace_state
def qFY:Option (Nat×Int×Int)→Int
 |none=>0
 |some v=>v.2.1
noncomputable def qjs(s:Site)(l:List Cut):Int:=if qde s l≠0 then qde s l else qFY (qcv s l l.length)
theorem qlb(s:Site)(hz:Sized s)(hd:s.dreds.length<1000000000000)(h100:s.bed.levels.length≤100)(l:List Cut)(hl:l.length≤9223372036854775807):Contract Tryz.prog 58 [.agg (encSite s),.sl (l.map encCut)] (.ret (.int .i64 (qjs s l))):=by
 have h1:=qwI s hz hd h100 l hl
 unfold qjs
 by_cases h0:qde s l=0
 ·rw[if_neg (not_not_intro h0)]
  have e:qk9 s l=qcv s l l.length:=if_pos h0
  rw[h0,e]at h1
  generalize qcv s l l.length=o at*
  cases o with
  |none=>
   refine zT mix Tryz.func58 Tryz.ntmps58 Tryz.results58 rfl rfl rfl ?_;simp only[qac,Nat.reduceAdd]
   repeat'(first|refine zQ ?_|refine zF h1 ?_|refine zE ?_|fail)
   all_goals first
    |rfl
    |(exfalso;simp at *;done)
    |trace_state
  |some v=>
   refine zT mix Tryz.func58 Tryz.ntmps58 Tryz.results58 rfl rfl rfl ?_;simp only[qac,Nat.reduceAdd]
   repeat'(first|refine zQ ?_|refine zF h1 ?_|refine zE ?_|fail)
   all_goals first
    |rfl
    |(exfalso;simp at *;done)
    |trace_state
 ·rw[if_pos h0]
  have e:qk9 s l=none:=if_neg h0
  rw[e]at h1
  generalize qde s l=q at*
  refine zT mix Tryz.func58 Tryz.ntmps58 Tryz.results58 rfl rfl rfl ?_;simp only[qac,Nat.reduceAdd]
  repeat'(first|(with_reducible rfl)|refine zQ ?_|refine zF h1 ?_|(refine zC ?_ ?_<;>first|intro h|simp)|refine zE ?_|fail)
  all_goals first
   |rfl
   |(exfalso;omega)
   |trace_state
instance qIm:TEq Tryz.prog 53 [.i,.i,.i]:=⟨by kernel_rfl⟩
def qDu(a c r:Int):List D:=[.int .i64 a,.int .i64 c,.int .i64 r]
def qF0(o:Option (Nat×Int×Int))(a c r:Int):Prop:=∃k r' c',o=some (k,r',c')∧(k:Int)=a∧c'=c∧r'=r
open Classical in
noncomputable def qIn(s:Site)(l:List Cut)(a c r:Int):Int:=if qde s l≠0 then qde s l else if qF0 (qcv s l l.length) a c r then 0 else 21
theorem qtG(s:Site)(hz:Sized s)(hd:s.dreds.length<1000000000000)(h100:s.bed.levels.length≤100)(l:List Cut)(hl:l.length≤9223372036854775807)(a c r:Int):Contract Tryz.prog 72 [.agg (encSite s),.sl (l.map encCut),.agg (qDu a c r)] (.ret (.int .i64 (qIn s l a c r))):=by
 have h1:=qwI s hz hd h100 l hl
 unfold qIn
 by_cases h0:qde s l=0
 ·rw[if_neg (not_not_intro h0)]
  have e:qk9 s l=qcv s l l.length:=if_pos h0
  rw[h0,e]at h1
  generalize qcv s l l.length=o at*
  cases o with
  |none=>
   refine zT mix Tryz.func72 Tryz.ntmps72 Tryz.results72 rfl rfl rfl ?_;simp only[qac,Nat.reduceAdd]
   repeat'(first|refine zQ ?_|refine zF h1 ?_|refine zE ?_|fail)
   all_goals first
    |(rw[if_neg];rintro⟨_,_,_,h,_⟩;cases h)
    |trace_state
  |some v=>
   obtain⟨k,r',c'⟩:=v
   refine zT mix Tryz.func72 Tryz.ntmps72 Tryz.results72 rfl rfl rfl ?_;simp only[qac,Nat.reduceAdd]
   repeat'(first|refine zQ ?_|refine zF h1 ?_|(refine zC ?_ ?_<;>first|intro h|simp)|refine zE ?_|fail)
   all_goals simp only[Bool.and_true,Bool.and_eq_true,Bool.and_eq_false_iff,decide_eq_true_eq,decide_eq_false_iff_not]at*
   all_goals first
    |(rw[if_pos];exact⟨k,r',c',rfl,h.1,h.2.1,h.2.2⟩)
    |(rw[if_neg]
      rintro⟨k2,r2,c2,h3,h4,h5,h6⟩
      simp only[Option.some.injEq,Prod.mk.injEq]at h3
      obtain⟨rfl,rfl,rfl⟩:=h3
      rcases h with h|h|h
      ·exact h h4
      ·exact h h5
      ·exact h h6)
    |trace_state
 ·rw[if_pos h0]
  have e:qk9 s l=none:=if_neg h0
  rw[e]at h1
  generalize qde s l=q at*
  refine zT mix Tryz.func72 Tryz.ntmps72 Tryz.results72 rfl rfl rfl ?_;simp only[qac,Nat.reduceAdd]
  repeat'(first|(with_reducible rfl)|refine zQ ?_|refine zF h1 ?_|(refine zC ?_ ?_<;>first|intro h|simp)|refine zE ?_|fail)
  all_goals first
   |rfl
   |(exfalso;omega)
   |trace_state
structure IsO(n:Nat)(o:List Nat):Prop where
 lt:∀k∈o,k<n
 nd:o.Nodup
theorem qsc{n:Nat}{R:Nat→Nat→Int}:∀{m s:Nat} {o:List Nat},o∈Ord.ordL n R m s→o.length=m∧(∀k∈o,k<n∧s.testBit k=false)∧o.Nodup
 |0,s,o,h=>by
  simp only[Ord.ordL,List.mem_singleton]at h
  subst h
  simp
 |m+1,s,o,h=>by
  obtain⟨k,hk,h⟩:=List.mem_flatMap.1 h
  split at h
  ·rename_i hn
   obtain⟨r,hr,rfl⟩:=List.mem_map.1 h
   obtain⟨h1,h2,h3⟩:=qsc hr
   have hb:=Ord.nx_bit hn
   refine⟨by simp[h1],fun j hj=>?_,?_⟩
   ·rcases List.mem_cons.1 hj with rfl|hj
    ·exact⟨List.mem_range.1 hk,hb⟩
    ·obtain⟨h4,h5⟩:=h2 j hj
     rw[Ord.tb_or,Bool.or_eq_false_iff]at h5
     exact⟨h4,h5.1⟩
   ·rw[List.nodup_cons]
    refine⟨fun hm=>?_,h3⟩
    have:=(h2 k hm).2
    rw[Ord.tb_or]at this
    simp at this
  ·cases h
theorem qBC{n:Nat}{R:Nat→Nat→Int}{o:List Nat}(h:o∈Ord.ordL n R n 0):IsO n o∧o.length=n:=by
 obtain⟨h1,h2,h3⟩:=qsc h
 exact⟨⟨fun k hk=>(h2 k hk).1,h3⟩,h1⟩
def qaV(r:List Int):List D:=[.sl (r.map qak)]
theorem qnu:qiH qaV 1:=fun _=>⟨rfl,rfl,rfl⟩
def qge(n:Nat)(T:Nat→Nat→Int)(s:Nat):List Int:=(List.range n).map (T s)
def qbm(n:Nat)(T:Nat→Nat→Int)(m:Nat):List (List Int):=(List.range m).map (qge n T)
theorem qjN{n:Nat}{T:Nat→Nat→Int}{s:Nat}:(qge n T s).length=n:=by simp[qge]
theorem qib{n m:Nat}{T:Nat→Nat→Int}:(qbm n T m).length=m:=by simp[qbm]
theorem qyP{n:Nat}{T:Nat→Nat→Int}{s k:Nat}(h:k<(qge n T s).length):(qge n T s)[k]=T s k:=by simp[qge]
theorem qpk{n m:Nat}{T:Nat→Nat→Int}{s:Nat}(h:s<(qbm n T m).length):(qbm n T m)[s]=qge n T s:=by simp[qbm]
theorem qml{n m:Nat}{T:Nat→Nat→Int}:qbm n T (m+1)=qbm n T m++[qge n T m]:=by simp[qbm,List.range_succ]
def qiS(n:Nat)(rl pl:List (List Int)):D:=.ptr [.int .i64 n,.sl (rl.map qaV),.sl (pl.map qaV)]
theorem qB3{n:Nat}(h:n≤8):2^n≤256∧1≤2^n:=⟨Nat.pow_le_pow_right (by omega) h,Nat.one_le_two_pow⟩
theorem qBD(n:Nat)(hn:n≤8)(rl pl:List (List Int)):Contract Tryz.prog 128 [qiS n rl pl] (.ret (.int .i64 (((2^n:Nat):Int)-1))):=by
 have hp:=qB3 hn
 unfold qiS
 refine zT mix Tryz.func128 Tryz.ntmps128 Tryz.results128 rfl rfl rfl ?_;simp only[qac,Nat.reduceAdd]
 repeat'(first|((with_reducible apply qao);rfl;rfl)|((with_reducible apply qdP);rfl;rfl;rfl;omega)|(with_reducible rfl)|refine zS ?_|refine zA ?_|refine zE ?_|fail)
 all_goals trace_state
theorem qBE(n:Nat)(hn:n≤8)(rl pl:List (List Int))(r:List Int)(v:Int)(set k:Nat)(hk:k<n)(hset:set≤1000)(hr:rl[set]? =some r)(hrl:r.length=n)(hv:r[k]? =some v):Contract Tryz.prog 130 [qiS n rl pl,.int .i64 set,.int .i64 k] (.ret (.bool (decide (set/2^k%2=0)&&decide (v=0)))):=by
 have hs':set<rl.length:=by
  rcases Nat.lt_or_ge set rl.length with h|h
  ·exact h
  ·rw[List.getElem?_eq_none h]at hr;cases hr
 have hg1:rl[set]'hs'=r:=by rw[List.getElem?_eq_getElem hs']at hr;exact Option.some.inj hr
 have hl3:(rl[set]'hs').length=n:=by rw[hg1];exact hrl
 have hk3:k<(rl[set]'hs').length:=by omega
 have hg2:(rl[set]'hs')[k]'hk3=v:=by
  rw[List.getElem?_eq_getElem (by omega)]at hv
  simp only[hg1]
  exact Option.some.inj hv
 unfold qiS
 refine zT mix Tryz.func130 Tryz.ntmps130 Tryz.results130 rfl rfl rfl ?_;simp only[qac,Nat.reduceAdd]
 repeat'(first|((with_reducible apply qao);rfl;rfl)|((with_reducible apply qfY);rfl;rfl;rfl;omega)|((with_reducible apply qem);rfl;rfl;rfl)|refine zS ?_|refine zA ?_|(refine zI ?_;intro hlt)|(refine zG ?_ ?_<;>first|intro h|simp)|refine zE ?_|fail)
 all_goals first
  |(simp only[hg2,decide_eq_true (show set/2^k%2=0 by omega),Bool.true_and];done)
  |(rw[decide_eq_false (show ¬set/2^k%2=0 by omega)];rfl)
  |trace_state
theorem qwS(n:Nat)(hn:n≤8)(T:Nat→Nat→Int)(pl:List (List Int))(set k:Nat)(hs:set<2^n)(hk:k<n):Contract Tryz.prog 130 [qiS n (qbm n T (2^n)) pl,.int .i64 set,.int .i64 k] (.ret (.bool (Ord.nx T set k))):=by
 have hp:=qB3 hn
 have e:Ord.nx T set k=(decide (set/2^k%2=0)&&decide (T set k=0)):=by
  unfold Ord.nx
  rw[Nat.testBit_eq_decide_div_mod_eq]
  congr 1
  rw[Bool.eq_iff_iff]
  simp only[Bool.not_eq_true',decide_eq_false_iff_not,decide_eq_true_eq]
  omega
 rw[e]
 exact qBE n hn _ pl (qge n T set) (T set k) set k hk (by omega) (by rw[List.getElem?_eq_getElem (by rw[qib];exact hs),qpk]) qjN (by rw[List.getElem?_eq_getElem (by rw[qjN];exact hk),qyP])
end Go.Pv.Soil

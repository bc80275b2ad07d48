import Derived.Test.YtfklpkgdobdbpaaGreatCBR
/- Part of the proofs over YtfklpkgdobdbpaaGreat: N32, N56, N44, N47, N48. -/
set_option linter.unusedVariables false
set_option linter.unusedSimpArgs false
set_option linter.unnecessarySimpa false
open Go Go.Proofs Go.Pv
set_option maxHeartbeats 8000000
set_option maxRecDepth 100000
set_option linter.unusedSimpArgs false
set_option linter.unusedVariables false
namespace Go.Pv.Soil
noncomputable def qBt(s:Site)(b:Grid)(c:Cut):Option (Int×Int):=if onE s b c=0 then qiO s b c else none
theorem qwp(s:Site)(hz:Sized s)(hd:s.dreds.length<1000000000000)(b:Grid)(h100:b.levels.length≤100)(c:Cut):Contract Tryz.prog 28 [.agg (encSite s),.agg (encGrid b),.agg (encCut c)] (.ret (.tup [.agg (qts (qBt s b c)),.bool (qBt s b c).isSome,.int .i64 (onE s b c)])):=by
 have h1:=qf1 s hz hd b (by omega) c
 unfold qBt
 by_cases h0:onE s b c=0
 ·rw[if_pos h0]
  obtain⟨_,hs,hc,hb⟩:=qk0 h0
  have h2:=qh7 s hz hs b hb h100 c hc
  rw[h0]at h1 ⊢
  generalize qiO s b c=o at*
  have hv:∃x y z,qts o=[.int .i64 x,.int .i64 y,.int .i64 z]:=by cases o<;>exact⟨_,_,_,rfl⟩
  obtain⟨x,y,z,hv⟩:=hv
  rw[hv]at h2 ⊢
  refine zT mix Tryz.func28 Tryz.ntmps28 Tryz.results28 rfl rfl rfl ?_;simp only[qac,Nat.reduceAdd]
  repeat'(first|refine zQ ?_|refine zF h1 ?_|refine zF h2 ?_|refine zE ?_|fail)
  all_goals first
   |rfl
   |(exfalso;simp at *;done)
   |trace_state
 ·rw[if_neg h0]
  generalize onE s b c=q at*
  refine zT mix Tryz.func28 Tryz.ntmps28 Tryz.results28 rfl rfl rfl ?_;simp only[qac,Nat.reduceAdd]
  repeat'(first|refine zQ ?_|refine zF h1 ?_|(refine zC ?_ ?_<;>first|intro h|simp)|refine zE ?_|fail)
  all_goals first
   |rfl
   |(exfalso;omega)
   |trace_state
def qnE:Site:=⟨⟨0,0,1000,3,1,[-500,-500,-500]⟩,⟨[⟨"sand".toUTF8,100,1900,1,1⟩],[⟨"B".toUTF8,0,0,[⟨0, "sand".toUTF8⟩]⟩]⟩,[],[],[⟨"g".toUTF8,0,0,[⟨0,0⟩,⟨100000,0⟩]⟩],[⟨"c".toUTF8,0,1000,2,1,200,6000,[⟨"sand".toUTF8,100,50⟩]⟩]⟩
theorem qyu{P:Program}(hmix:P.follows .mixedOrders=true){fuel k:Nat}{c:Code}{st:St}{rv:ResultVar}{r:D}(h:(match qll P (qzb P fuel k).1 (qzb P fuel k).2 fuel c st with
  |some (.ret,s)=>(qb6 P s rv).bind fun d=>pur (lkH s.hp) 64 d
  |_=>none)=some r) (hr:qi0 r=true):evG qck P c (qg0 P [rv] (.ret r)) st:=by
 split at h
 ·rename_i s hs
  cases hd:qb6 P s rv with
  |none=>rw[hd]at h;cases h
  |some d=>
   rw[hd]at h
   exact qiD qd1 (qiG hmix k).1 (qiG hmix k).2 _ _ _ _ _ hs (by
    cases s
    exact qkw hd h hr)
 ·cases h
theorem qDn:Contract Tryz.prog 80 [] (.ret (.agg (encSite qnE))):=by
 refine zT mix Tryz.func80 Tryz.ntmps80 Tryz.results80 rfl rfl rfl ?_;simp only[qac,Nat.reduceAdd]
 exact qyu (fuel:=1000) (k:=20) mix (by kernel_rfl) rfl
theorem qr6{s:Site}{l:List Cut}(h:qjs s l=0):qde s l=0:=by
 unfold qjs at h
 split at h
 ·contradiction
 ·rename_i h1;exact Classical.not_not.1 h1
noncomputable def qzL(s:Site)(l:List Cut):List (Int×Int):=if qjs s l=0 then spR s l else []
noncomputable def qDt(s:Site)(l:List Cut):Int:=if qjs s l=0 then prR s l else 0
theorem qFZ(s:Site)(hz:Sized s)(hd:s.dreds.length<1000000000000)(h100:s.bed.levels.length≤100)(l:List Cut)(hl:l.length≤9223372036854775807):Contract Tryz.prog 73 [.agg (encSite s),.sl (l.map encCut)] (.ret (.tup [.sl ((qzL s l).map qlv),.int .i64 (qjs s l)])):=by
 have h1:=qlb s hz hd h100 l hl
 unfold qzL
 by_cases h0:qjs s l=0
 ·rw[if_pos h0]
  have ha:=qr6 h0
  obtain⟨hll,hl2⟩:=qfp ha
  have h2:=qqp s hz (qd4 ha).1 h100 l hll hl2
  rw[h0]at h1 ⊢
  obtain⟨x,y,z,hv⟩:=qla (qcv s l l.length)
  rw[hv]at h2
  generalize (qcv s l l.length).isSome=o at*
  generalize spR s l=sr at*
  generalize prR s l=pr at*
  refine zT mix Tryz.func73 Tryz.ntmps73 Tryz.results73 rfl rfl rfl ?_;simp only[qac,Nat.reduceAdd]
  repeat'(first|refine zQ ?_|refine zF h1 ?_|refine zF h2 ?_|fail)
  all_goals first
   |exact qcs rfl rfl rfl rfl
   |(exfalso;simp at *;done)
   |trace_state
 ·rw[if_neg h0]
  generalize qjs s l=q at*
  refine zT mix Tryz.func73 Tryz.ntmps73 Tryz.results73 rfl rfl rfl ?_;simp only[qac,Nat.reduceAdd]
  repeat'(first|refine zQ ?_|refine zF h1 ?_|(refine zC ?_ ?_<;>first|intro h|simp)|fail)
  all_goals first
   |exact qcs rfl rfl rfl rfl
   |(exfalso;omega)
   |trace_state
theorem qIl(s:Site)(hz:Sized s)(hd:s.dreds.length<1000000000000)(h100:s.bed.levels.length≤100)(l:List Cut)(hl:l.length≤9223372036854775807):Contract Tryz.prog 74 [.agg (encSite s),.sl (l.map encCut)] (.ret (.tup [.int .i64 (qDt s l),.int .i64 (qjs s l)])):=by
 have h1:=qlb s hz hd h100 l hl
 unfold qDt
 by_cases h0:qjs s l=0
 ·rw[if_pos h0]
  have ha:=qr6 h0
  obtain⟨hll,hl2⟩:=qfp ha
  have h2:=qqp s hz (qd4 ha).1 h100 l hll hl2
  rw[h0]at h1 ⊢
  obtain⟨x,y,z,hv⟩:=qla (qcv s l l.length)
  rw[hv]at h2
  generalize (qcv s l l.length).isSome=o at*
  generalize spR s l=sr at*
  generalize prR s l=pr at*
  refine zT mix Tryz.func74 Tryz.ntmps74 Tryz.results74 rfl rfl rfl ?_;simp only[qac,Nat.reduceAdd]
  repeat'(first|refine zQ ?_|refine zF h1 ?_|refine zF h2 ?_|refine zE ?_|fail)
  all_goals first
   |rfl
   |(exfalso;simp at *;done)
   |trace_state
 ·rw[if_neg h0]
  generalize qjs s l=q at*
  refine zT mix Tryz.func74 Tryz.ntmps74 Tryz.results74 rfl rfl rfl ?_;simp only[qac,Nat.reduceAdd]
  repeat'(first|refine zQ ?_|refine zF h1 ?_|(refine zC ?_ ?_<;>first|intro h|simp)|refine zE ?_|fail)
  all_goals first
   |rfl
   |(exfalso;omega)
   |trace_state
def qyJ(s:Site)(i:Nat)(acc x:Int):Int:=if lv s.bed.levels x.toNat=30000 then acc else max acc (lv s.bed.levels x.toNat-qbE s.ground s.bed i x.toNat)
def qtv(s:Site)(i:Nat)(N:List Int)(a:Int)(j:Nat):Int:=(N.take j).foldl (qyJ s i) a
theorem qmj{s:Site}{i j:Nat}{N:List Int}{a:Int}(h:j<N.length):qtv s i N a (j+1)=qyJ s i (qtv s i N a j) N[j]:=by
 unfold qtv;rw[List.take_succ_eq_append_getElem h,List.foldl_append];rfl
noncomputable def qzM(s:Site)(i:Nat):Int:=if(qv6 s i).2=true then max (-20000) (qv6 s i).1 else -20000
noncomputable def qzN(s:Site)(i:Nat):Int:=if qf7 s i=true then lv s.bed.levels i else min (qtv s i (qbo s.bed i s.bed.levels.length) (qzM s i) (qbo s.bed i s.bed.levels.length).length) (lv s.bed.levels i)
theorem qBz{s:Site}{i:Nat}{x:Int}(h:x∈qbo s.bed i s.bed.levels.length):∃k:Nat,x=k∧k<s.bed.levels.length∧qdr s.bed i k=true:=by
 obtain⟨k,h1,h2,h3⟩:=(qeZ s.bed i x _).1 h
 exact⟨k,h2,h1,h3⟩
noncomputable def qwJ(s:Site)(cell:Int):Int×Int:=if qfn s≠0 then(0,qfn s)else if ¬(0≤cell∧cell<s.bed.levels.length)then(0,6)else if lv s.bed.levels cell.toNat=30000 then(0,12)else(qzN s cell.toNat,0)
theorem qB2(s:Site)(hz:Sized s)(cell:Int):Contract Tryz.prog 66 [.agg (encSite s),.int .i64 cell] (.ret (.tup [.int .i64 (qwJ s cell).1,.int .i64 (qwJ s cell).2])):=by
 have h1:=qhh s hz
 unfold qwJ
 by_cases h0:qfn s=0
 rotate_left
 ·rw[if_pos h0]
  generalize qfn s=q at*
  refine zT mix Tryz.func66 Tryz.ntmps66 Tryz.results66 rfl rfl rfl ?_;simp only[qac,Nat.reduceAdd]
  repeat'(first|refine zQ ?_|refine zF h1 ?_|(refine zC ?_ ?_<;>first|intro h|simp)|refine zE ?_|fail)
  all_goals first
   |rfl
   |(exfalso;omega)
   |trace_state
 rw[if_neg (not_not_intro h0)]
 rw[h0]at h1
 have hs:=qzv h0
 have hsm:=hs.bed.small
 by_cases hc:0≤cell∧cell<s.bed.levels.length
 rotate_left
 ·rw[if_pos hc]
  refine zT mix Tryz.func66 Tryz.ntmps66 Tryz.results66 rfl rfl rfl ?_;simp only[qac,Nat.reduceAdd]
  repeat'(first|((with_reducible apply qad);rfl;(exact qlq _ _ _);rfl)|refine zQ ?_|refine zF h1 ?_|(refine zI ?_;intro hlt)|(refine zC ?_ ?_<;>first|intro h|simp)|refine zE ?_|fail)
  all_goals first
   |rfl
   |(exfalso;omega)
   |trace_state
 rw[if_neg (not_not_intro hc)]
 obtain⟨i,rfl⟩:=Int.eq_ofNat_of_zero_le hc.1
 have hi:i<s.bed.levels.length:=by omega
 simp only[Int.toNat_natCast]
 have hlv:=qbu hi
 by_cases hu:lv s.bed.levels i=30000
 ·rw[if_pos hu]
  rw[hlv]at hu
  refine zT mix Tryz.func66 Tryz.ntmps66 Tryz.results66 rfl rfl rfl ?_;simp only[qac,Nat.reduceAdd]
  repeat'(first|((with_reducible apply qad);rfl;(exact qlq _ _ _);rfl)|refine zQ ?_|refine zF h1 ?_|(refine zI ?_;intro hlt)|(refine zC ?_ ?_<;>first|intro h|simp)|refine zE ?_|fail)
  all_goals first
   |rfl
   |(exfalso;omega)
   |trace_state
 rw[if_neg hu]
 have h2:=qkY s hs i hi
 unfold qzN
 rw[hlv]at hu ⊢
 cases hg:qf7 s i
 rotate_left
 ·rw[hg]at h2
  refine zT mix Tryz.func66 Tryz.ntmps66 Tryz.results66 rfl rfl rfl ?_;simp only[qac,Nat.reduceAdd]
  repeat'(first|((with_reducible apply qad);rfl;(exact qlq _ _ _);rfl)|refine zQ ?_|refine zF h1 ?_|refine zF h2 ?_|(refine zI ?_;intro hlt)|(refine zC ?_ ?_<;>first|intro h|simp)|refine zE ?_|fail)
  all_goals first
   |rfl
   |(exfalso;omega)
   |(exfalso;simp at *;done)
   |trace_state
 rw[hg]at h2
 have h3:=qv7 s hs i hi
 have h4:=qq2 qvS (qId s.bed hs.bed hs.be i hi)
 have hNl:=qeo s.bed i s.bed.levels.length
 have h5:=fun x=>c58 s.ground hz.so hz.bo s.bed hz.lv (i:Int) x
 simp only[Bool.false_eq_true,if_false]
 have hin:=fun(j:Nat) (h:j<(qbo s.bed i s.bed.levels.length).length)=>qBz (s:=s) (i:=i) (List.getElem_mem h)
 have hgr:qa3 s.ground [s.bed]=0:=by
  unfold qa3
  rw[if_neg (not_not_intro hs.gr),if_neg]
  show ¬qcR [qa8 s.bed]≠0
  rw[hs.be];decide
 unfold qzM
 generalize hw:qv6 s i=w at*
 obtain⟨w1,w2⟩:=w
 generalize ha:(if(w1,w2).2=true then max (-20000) (w1,w2).1 else(-20000:Int))=a0
 have ha':a0=if w2=true then max (-20000) w1 else -20000:=ha.symm
 generalize qbo s.bed i s.bed.levels.length=N at*
 cases w2
 ·simp only[Bool.false_eq_true,if_false]at ha'
  subst ha'
  refine zT mix Tryz.func66 Tryz.ntmps66 Tryz.results66 rfl rfl rfl ?_;simp only[qac,Nat.reduceAdd]
  repeat'(first|((with_reducible apply qad);rfl;(exact qlq _ _ _);rfl)|refine zQ ?_|refine zF h1 ?_|refine zF h2 ?_|refine zF h3 ?_|refine zF h4 ?_|(refine zI ?_;intro hlt)|(refine zC ?_ ?_<;>first|intro h|simp)|refine zE ?_|fail)
  all_goals try(exfalso;omega)
  refine qaf N.length (fun j=>⟨[(8,.int .i64 (qtv s i N (-20000) j)),(70,.int .i64 j),(69,.int .i64 N.length),(68,.sl (N.map qak)),(7,.int .i64 s.bed.levels[i]),(1,.int .i64 i),(2,.op 0 0 0)],[(0,⟨12,true,[encSite s]⟩)],32,101⟩) (fun j=>True) ?_ trivial ?_
  ·exact qaa (nx:=32) (k:=0) (ns:=[]) (ks:=[8,70,69,68,7,1,2]) [(0,0)] rfl (by simp) (by kernel_rfl)
  intro j hj _
  by_cases hL:j<N.length
  ·obtain⟨x,hx,hxl,hxb⟩:=hin j hL
   have hxn:N[j].toNat<s.bed.levels.length:=by omega
   have hxv:=qbu hxn
   have hrx:=qmb hs.bed hxn
   have hal:=qhY (okG hs.gr) hs.bed i N[j].toNat
   have h6:=h5 N[j]
   have e6:qcK s.ground s.bed i N[j]=(qbE s.ground s.bed i N[j].toNat,0):=by
    unfold qcK
    rw[if_neg (not_not_intro hgr),if_neg (not_not_intro ⟨⟨by omega,by omega⟩,by omega,by omega⟩),hx]
    simp only[Int.toNat_natCast]
    rw[if_pos hxb]
   rw[e6]at h6
   have hs1:=qmj (s:=s) (i:=i) (a:=(-20000)) hL
   unfold qyJ at hs1
   rw[hxv]at hs1 hrx
   repeat'(first|refine zQ ?_|refine zF h6 ?_|(refine zI ?_;intro hlt)|(refine zC ?_ ?_<;>first|intro h|simp)|refine zE ?_|fail)
   all_goals first
    |exact absurd hL (by omega)
    |(refine⟨hL,trivial,?_⟩
      rw[hs1]
      first|rw[if_pos (by assumption)]|rw[if_neg (by assumption)]
      exact qaa (nx:=32) (k:=0) (ns:=[]) (ks:=[8,70,69,68,7,1,2]) [(0,0)] rfl (by simp) (by kernel_rfl))
    |trace_state
  ·obtain rfl:j=N.length:=by omega
   repeat'(first|refine zQ ?_|(refine zI ?_;intro hlt)|(refine zC ?_ ?_<;>first|intro h|simp)|refine zE ?_|fail)
   all_goals first
    |exact absurd (show N.length<N.length by omega) hL
    |rfl
    |trace_state
 ·simp only[if_true]at ha'
  subst ha'
  refine zT mix Tryz.func66 Tryz.ntmps66 Tryz.results66 rfl rfl rfl ?_;simp only[qac,Nat.reduceAdd]
  repeat'(first|((with_reducible apply qad);rfl;(exact qlq _ _ _);rfl)|refine zQ ?_|refine zF h1 ?_|refine zF h2 ?_|refine zF h3 ?_|refine zF h4 ?_|(refine zI ?_;intro hlt)|(refine zC ?_ ?_<;>first|intro h|simp)|refine zE ?_|fail)
  all_goals try(exfalso;omega)
  refine qaf N.length (fun j=>⟨[(8,.int .i64 (qtv s i N (max (-20000) w1) j)),(70,.int .i64 j),(69,.int .i64 N.length),(68,.sl (N.map qak)),(7,.int .i64 s.bed.levels[i]),(1,.int .i64 i),(2,.op 0 0 0)],[(0,⟨12,true,[encSite s]⟩)],32,101⟩) (fun j=>True) ?_ trivial ?_
  ·exact qaa (nx:=32) (k:=0) (ns:=[]) (ks:=[8,70,69,68,7,1,2]) [(0,0)] rfl (by simp) (by kernel_rfl)
  intro j hj _
  by_cases hL:j<N.length
  ·obtain⟨x,hx,hxl,hxb⟩:=hin j hL
   have hxn:N[j].toNat<s.bed.levels.length:=by omega
   have hxv:=qbu hxn
   have hrx:=qmb hs.bed hxn
   have hal:=qhY (okG hs.gr) hs.bed i N[j].toNat
   have h6:=h5 N[j]
   have e6:qcK s.ground s.bed i N[j]=(qbE s.ground s.bed i N[j].toNat,0):=by
    unfold qcK
    rw[if_neg (not_not_intro hgr),if_neg (not_not_intro ⟨⟨by omega,by omega⟩,by omega,by omega⟩),hx]
    simp only[Int.toNat_natCast]
    rw[if_pos hxb]
   rw[e6]at h6
   have hs1:=qmj (s:=s) (i:=i) (a:=(max (-20000) w1)) hL
   unfold qyJ at hs1
   rw[hxv]at hs1 hrx
   repeat'(first|refine zQ ?_|refine zF h6 ?_|(refine zI ?_;intro hlt)|(refine zC ?_ ?_<;>first|intro h|simp)|refine zE ?_|fail)
   all_goals first
    |exact absurd hL (by omega)
    |(refine⟨hL,trivial,?_⟩
      rw[hs1]
      first|rw[if_pos (by assumption)]|rw[if_neg (by assumption)]
      exact qaa (nx:=32) (k:=0) (ns:=[]) (ks:=[8,70,69,68,7,1,2]) [(0,0)] rfl (by simp) (by kernel_rfl))
    |trace_state
  ·obtain rfl:j=N.length:=by omega
   repeat'(first|refine zQ ?_|(refine zI ?_;intro hlt)|(refine zC ?_ ?_<;>first|intro h|simp)|refine zE ?_|fail)
   all_goals first
    |exact absurd (show N.length<N.length by omega) hL
    |rfl
    |trace_state
noncomputable def qKd(s:Site)(i j:Nat):Int:=if(qtn s i j).2=true then max (-20000) (qtn s i j).1 else -20000
theorem qKf{s:Site}{i j:Nat}(hj:j<s.quays.length):qKd s i (j+1)=if qil s.quays[j] s.bed i=30000 then qKd s i j else max (qKd s i j) (qil s.quays[j] s.bed i):=by
 unfold qKd
 rw[qoV hj]
 generalize qil s.quays[j] s.bed i=w
 generalize qtn s i j=st
 obtain⟨a,b⟩:=st
 by_cases hw:w=30000
 ·rw[if_pos hw,qBd hw]
 ·rw[if_neg hw]
  cases b
  ·rw[qBc hw rfl]
   simp
  ·by_cases h2:a<w
   ·rw[qBb hw h2]
    simp only[if_true];omega
   ·rw[qBe rfl h2]
    simp only[if_true];omega
theorem qKj(s:Site)(hz:Sized s)(hs:OkSite s)(i:Nat)(hi:i<s.bed.levels.length)(hu:lv s.bed.levels i≠30000):Contract Tryz.prog 68 [.agg (encSite s),.int .i64 i] (.ret (.int .i64 (qzN s i))):=by
 have hsm:=hs.bed.small
 have hlv:=qbu hi
 have hzn:=hs.zone
 have hqy:=hs.quay
 unfold qzN
 rw[hlv]
 refine zT mix Tryz.func68 Tryz.ntmps68 Tryz.results68 rfl rfl rfl ?_;simp only[qac,Nat.reduceAdd]
 repeat'(first|refine zQ ?_|(refine zI ?_;intro hlt)|fail)
 refine qaf s.zones.length (fun j=>⟨[(6,.int .i64 j),(5,.int .i64 s.bed.levels[i]),(1,.int .i64 i),(2,.op 0 0 0)],[(0,⟨12,true,[encSite s]⟩)],32,99⟩) (fun j=>∀m (hm:m<s.zones.length),m<j→qfy s.bed i s.zones[m]=false) ?_ (by omega) ?_
 ·exact qaa (nx:=32) (k:=0) (ns:=[]) (ks:=[6,5,1,2]) [(0,0)] rfl (by simp) (by kernel_rfl)
 intro j hj hC
 by_cases hL:j<s.zones.length
 ·have h4:=qBa s.bed hs.bed i hi s.zones[j] (hzn.2 j hL)
  repeat'(first|refine zQ ?_|refine zF h4 ?_|(refine zI ?_;intro hlt)|(refine zC ?_ ?_<;>first|intro h|simp)|refine zE ?_|fail)
  all_goals first
   |exact absurd hL (by omega)
   |(rw[if_pos (show qf7 s i=true from qwv hL (by assumption))];done)
   |(refine⟨hL,fun m hm hmj=>?_,qaa (nx:=32) (k:=0) (ns:=[]) (ks:=[6,5,1,2]) [(0,0)] rfl (by simp) (by kernel_rfl)⟩
     rcases Nat.lt_succ_iff_lt_or_eq.1 hmj with h'|rfl
     ·exact hC m hm h'
     ·assumption)
   |trace_state
 rw[if_neg (by rw[show qf7 s i=false from qyx fun m hm=>hC m hm (by omega)];simp)]
 repeat'(first|refine zQ ?_|(refine zI ?_;intro hlt)|(refine zC ?_ ?_<;>first|intro h|simp)|fail)
 all_goals try exact absurd hL (by omega)
 refine qaf s.quays.length (fun j=>⟨[(7,.int .i64 (qKd s i j)),(8,.int .i64 j),(5,.int .i64 s.bed.levels[i]),(1,.int .i64 i),(2,.op 0 0 0)],[(0,⟨12,true,[encSite s]⟩)],32,99⟩) (fun j=>True) ?_ trivial ?_
 ·exact qaa (nx:=32) (k:=0) (ns:=[]) (ks:=[7,8,5,1,2]) [(0,0)] rfl (by simp) (by kernel_rfl)
 intro j2 hj2 _
 by_cases hL2:j2<s.quays.length
 ·have h3:=qBX s.bed hs.bed i hi
  have h4:=qwB s hs s.bed (qr3 s hs) j2 hL2 i hi
  have hst:=qKf (i:=i) hL2
  generalize qil s.quays[j2] s.bed i=w at*
  repeat'(first|refine zQ ?_|refine zF h3 ?_|refine zF h4 ?_|(refine zI ?_;intro hlt)|(refine zC ?_ ?_<;>first|intro h|simp)|fail)
  all_goals first
   |exact absurd hL2 (by omega)
   |(refine⟨hL2,trivial,?_⟩
     rw[hst]
     first|rw[if_pos (by assumption)]|rw[if_neg (by assumption)]
     exact qaa (nx:=32) (k:=0) (ns:=[]) (ks:=[7,8,5,1,2]) [(0,0)] rfl (by simp) (by kernel_rfl))
   |trace_state
 have e:qKd s i s.quays.length=qzM s i:=rfl
 obtain rfl:j2=s.quays.length:=by omega
 rw[e]
 generalize qzM s i=a0 at*
 have h5:=qu3 qvS (qJN s.bed hs.bed i hi)
 have hNl:=qeo s.bed i s.bed.levels.length
 have hin:=fun(j:Nat) (h:j<(qbo s.bed i s.bed.levels.length).length)=>qBz (s:=s) (i:=i) (List.getElem_mem h)
 generalize qbo s.bed i s.bed.levels.length=N at*
 repeat'(first|refine zQ ?_|refine zF h5 ?_|(refine zI ?_;intro hlt)|(refine zC ?_ ?_<;>first|intro h|simp)|fail)
 all_goals try exact absurd (show s.quays.length<s.quays.length by omega) hL2
 refine qaf N.length (fun j=>⟨[(7,.int .i64 (qtv s i N a0 j)),(11,.int .i64 j),(10,.sl (N.map qak)),(5,.int .i64 s.bed.levels[i]),(1,.int .i64 i),(2,.op 0 0 0)],[(0,⟨12,true,[encSite s]⟩)],32,99⟩) (fun j=>True) ?_ trivial ?_
 ·exact qaa (nx:=32) (k:=0) (ns:=[]) (ks:=[7,11,10,5,1,2]) [(0,0)] rfl (by simp) (by kernel_rfl)
 intro j hj _
 by_cases hM:j<N.length
 ·obtain⟨x,hx,hxl,hxb⟩:=hin j hM
  have hxn:N[j].toNat<s.bed.levels.length:=by omega
  have hxv:=qbu hxn
  have hrx:=qmb hs.bed hxn
  have hal:=qhY (okG hs.gr) hs.bed i N[j].toNat
  have h6:Contract Tryz.prog 137 [.agg (qam s.ground),.agg (encGrid s.bed),.int .i64 i,.int .i64 N[j]] (.ret (.int .i64 (qbE s.ground s.bed i N[j].toNat))):=qJQ s.ground (okG hs.gr) hz.so s.bed hs.bed (i:Int) N[j] (by omega) (by omega)
  have h7:=qCZ s.bed N[j] (by omega) (by omega)
  have hs1:=qmj (s:=s) (i:=i) (a:=a0) hM
  unfold qyJ at hs1
  rw[hxv]at hs1 hrx h7
  repeat'(first|((with_reducible apply(qdZ 22));decide +kernel;rfl)|refine zS ?_|refine zA ?_|refine zF h6 ?_|refine zF h7 ?_|(refine zI ?_;intro hlt)|(refine zC ?_ ?_<;>first|intro h|simp)|refine zE ?_|fail)
  all_goals first
   |exact absurd hM (by omega)
   |(refine⟨hM,trivial,?_⟩
     rw[hs1]
     first|rw[if_pos (by assumption)]|rw[if_neg (by assumption)]
     exact qaa (nx:=32) (k:=0) (ns:=[]) (ks:=[7,11,10,5,1,2]) [(0,0)] rfl (by simp) (by kernel_rfl))
   |trace_state
 ·obtain rfl:j=N.length:=by omega
  repeat'(first|(with_reducible rfl)|refine zQ ?_|(refine zI ?_;intro hlt)|(refine zC ?_ ?_<;>first|intro h|simp)|refine zE ?_|fail)
  all_goals first
   |exact absurd (show N.length<N.length by omega) hM
   |rfl
   |trace_state
end Go.Pv.Soil

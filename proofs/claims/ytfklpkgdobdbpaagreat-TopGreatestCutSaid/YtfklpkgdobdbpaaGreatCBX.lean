import Derived.Test.YtfklpkgdobdbpaaGreatCBW
/- Part of the proofs over YtfklpkgdobdbpaaGreat: S11, S12, PH13, S72, S73, N32, N44, N46, N47, N48, N66, N67. -/
set_option linter.unusedVariables false
set_option linter.unusedSimpArgs false
set_option linter.unnecessarySimpa false
open Go Go.Proofs Go.Pv
set_option maxHeartbeats 8000000
set_option maxRecDepth 100000
set_option linter.unusedSimpArgs false
set_option linter.unusedVariables false
namespace Go.Pv.Soil
end Go.Pv.Soil
namespace Go.Pv.Geo
end Go.Pv.Geo
namespace Go.Pv.Soil
noncomputable def qD8(s:Site)(b:Grid)(c:Cut):Option (Int×Int):=if onE s b c=0 then qfg s b c else none
theorem qlT(s:Site)(hz:Sized s)(hd:s.dreds.length<1000000000000)(b:Grid)(h100:b.levels.length≤100)(c:Cut):Contract Tryz.prog 28 [.agg (encSite s),.agg (qag b),.agg (encCut c)] (.ret (.tup [.agg (qve (qD8 s b c)),.bool (qD8 s b c).isSome,.int .i64 (onE s b c)])):=by
 have h1:=qpL s hz hd b (by omega) c
 unfold qD8
 by_cases h0:onE s b c=0
 ·rw[if_pos h0]
  obtain⟨_,hs,hc,hb⟩:=qBI h0
  have h2:=qiB s hz hs b hb h100 c hc
  rw[h0]at h1 ⊢
  generalize qfg s b c=o at*
  have hv:∃x y z,qve o=[.int .i64 x,.int .i64 y,.int .i64 z]:=by cases o<;>exact⟨_,_,_,rfl⟩
  obtain⟨x,y,z,hv⟩:=hv
  rw[hv]at h2 ⊢
  refine zT mix Tryz.func28 Tryz.ntmps28 Tryz.results28 rfl rfl rfl ?_;simp only[qab,Nat.reduceAdd]
  repeat'(first|refine zQ ?_|refine zF h1 ?_|refine zF h2 ?_|refine zE ?_|fail)
  all_goals first
   |rfl
   |(exfalso;simp at *;done)
   |trace_state
 ·rw[if_neg h0]
  generalize onE s b c=q at*
  refine zT mix Tryz.func28 Tryz.ntmps28 Tryz.results28 rfl rfl rfl ?_;simp only[qab,Nat.reduceAdd]
  repeat'(first|refine zQ ?_|refine zF h1 ?_|(refine zC ?_ ?_<;>first|intro h|simp)|refine zE ?_|fail)
  all_goals first
   |rfl
   |(exfalso;omega)
   |trace_state
theorem qFw{s:Site}{l:List Cut}(h0:qcy s l=0)(h:qfv s l=0):qvj (qbb s l l.length)=0:=by
 unfold qfv at h;rwa[if_neg (not_not_intro h0)]at h
theorem qtB{s:Site}{l:List Cut}(h:qfv s l=0):qcy s l=0:=by
 unfold qfv at h
 split at h
 ·contradiction
 ·rename_i h1;exact Classical.not_not.1 h1
noncomputable def qjR(s:Site)(l:List Cut):List (Int×Int):=if qfv s l=0 then spR s l else []
noncomputable def qqh(s:Site)(l:List Cut):Int:=if qfv s l=0 then prR s l else 0
theorem qDy(s:Site)(hz:Sized s)(hd:s.dreds.length<1000000000000)(h100:s.bed.levels.length≤100)(l:List Cut)(hl:l.length≤9223372036854775807):Contract Tryz.prog 73 [.agg (encSite s),.sl (l.map encCut)] (.ret (.tup [.sl ((qjR s l).map qiD),.int .i64 (qfv s l)])):=by
 have h1:=qhJ s hz hd h100 l hl
 unfold qjR
 by_cases h0:qfv s l=0
 ·rw[if_pos h0]
  have ha:=qtB h0
  obtain⟨hll,hl2⟩:=qd7 ha
  have h2:=qrG s hz (qcw ha).1 h100 l hll hl2
  rw[h0]at h1 ⊢
  obtain⟨x,y,z,hv⟩:=qlX (qbb s l l.length)
  rw[hv]at h2
  generalize (qbb s l l.length).isSome=o at*
  generalize spR s l=sr at*
  generalize prR s l=pr at*
  refine zT mix Tryz.func73 Tryz.ntmps73 Tryz.results73 rfl rfl rfl ?_;simp only[qab,Nat.reduceAdd]
  repeat'(first|refine zQ ?_|refine zF h1 ?_|refine zF h2 ?_|fail)
  all_goals first
   |exact qcF rfl rfl rfl rfl
   |(exfalso;simp at *;done)
   |trace_state
 ·rw[if_neg h0]
  generalize qfv s l=q at*
  refine zT mix Tryz.func73 Tryz.ntmps73 Tryz.results73 rfl rfl rfl ?_;simp only[qab,Nat.reduceAdd]
  repeat'(first|refine zQ ?_|refine zF h1 ?_|(refine zC ?_ ?_<;>first|intro h|simp)|fail)
  all_goals first
   |exact qcF rfl rfl rfl rfl
   |(exfalso;omega)
   |trace_state
theorem qFx(s:Site)(hz:Sized s)(hd:s.dreds.length<1000000000000)(h100:s.bed.levels.length≤100)(l:List Cut)(hl:l.length≤9223372036854775807):Contract Tryz.prog 74 [.agg (encSite s),.sl (l.map encCut)] (.ret (.tup [.int .i64 (qqh s l),.int .i64 (qfv s l)])):=by
 have h1:=qhJ s hz hd h100 l hl
 unfold qqh
 by_cases h0:qfv s l=0
 ·rw[if_pos h0]
  have ha:=qtB h0
  obtain⟨hll,hl2⟩:=qd7 ha
  have h2:=qrG s hz (qcw ha).1 h100 l hll hl2
  rw[h0]at h1 ⊢
  obtain⟨x,y,z,hv⟩:=qlX (qbb s l l.length)
  rw[hv]at h2
  generalize (qbb s l l.length).isSome=o at*
  generalize spR s l=sr at*
  generalize prR s l=pr at*
  refine zT mix Tryz.func74 Tryz.ntmps74 Tryz.results74 rfl rfl rfl ?_;simp only[qab,Nat.reduceAdd]
  repeat'(first|refine zQ ?_|refine zF h1 ?_|refine zF h2 ?_|refine zE ?_|fail)
  all_goals first
   |rfl
   |(exfalso;simp at *;done)
   |trace_state
 ·rw[if_neg h0]
  generalize qfv s l=q at*
  refine zT mix Tryz.func74 Tryz.ntmps74 Tryz.results74 rfl rfl rfl ?_;simp only[qab,Nat.reduceAdd]
  repeat'(first|refine zQ ?_|refine zF h1 ?_|(refine zC ?_ ?_<;>first|intro h|simp)|refine zE ?_|fail)
  all_goals first
   |rfl
   |(exfalso;omega)
   |trace_state
def qiE(s:Site)(nm:ByteArray):Int:=qcs (fun z=>decide (z.name=nm)) s.zones
def qrH(s:Site)(z:qe7):List Nat:=(List.range s.bed.levels.length).filter fun i=>qdy s.bed i z
def qmu(s:Site)(nm:ByteArray):List Nat×Int:=if qda s≠0 then([],qda s)else match s.zones[(qiE s nm).toNat]? with
 |some z=>if 0≤qiE s nm then(qrH s z,0)else([],6)
 |none=>([],6)
theorem qDz(z:qe7)(nm:ByteArray):Contract Tryz.prog 144 [.agg (qbw z),.ptr [.str nm]] (.ret (.bool (decide (z.name=nm)))):=by
 refine zT mix Tryz.func144 Tryz.ntmps144 Tryz.results144 rfl rfl rfl ?_;simp only[qab,Nat.reduceAdd]
 repeat'(first|(with_reducible rfl)|refine zQ ?_|((with_reducible apply qaz);rfl;rfl)|refine zE ?_|fail)
theorem qFz(s:Site)(hz:Sized s)(nm:ByteArray):Contract Tryz.prog 65 [.agg (encSite s),.str nm] (.ret (.tup [.sl ((qmu s nm).1.map qcx),.int .i64 (qmu s nm).2])):=by
 have h1:=qfR s hz
 unfold qmu
 by_cases h0:qda s=0
 rotate_left
 ·rw[if_pos h0]
  generalize qda s=q at*
  refine zT mix Tryz.func65 Tryz.ntmps65 Tryz.results65 rfl rfl rfl ?_;simp only[qab,Nat.reduceAdd]
  repeat'(first|refine zQ ?_|refine zF h1 ?_|(refine zC ?_ ?_<;>first|intro h|simp)|fail)
  all_goals first
   |exact qcF rfl rfl rfl rfl
   |(exfalso;omega)
   |trace_state
 rw[if_neg (not_not_intro h0)]
 rw[h0]at h1
 have hs:=qtc h0
 have hzn:=hs.zone
 have hsm:=hs.bed.small
 have h2:Contract Tryz.prog 143 [.sl (s.zones.map qbw),.clo (.func 144) [] [.ptr [.str nm]]] (.ret (.int .i64 (qiE s nm))):=qsL s.zones (by omega) 144 [.ptr [.str nm]] (fun _ _=>rfl) rfl (fun z=>decide (z.name=nm)) fun z _=>qDz z nm
 by_cases hk:0≤qiE s nm
 rotate_left
 ·have e:(match s.zones[(qiE s nm).toNat]? with|some z=>if 0≤qiE s nm then(qrH s z,0)else([],6)|none=>(([]:List Nat),(6:Int)))=([],6):=by
   split
   ·rw[if_neg hk]
   ·rfl
  rw[e]
  generalize qiE s nm=q at*
  refine zT mix Tryz.func65 Tryz.ntmps65 Tryz.results65 rfl rfl rfl ?_;simp only[qab,Nat.reduceAdd]
  repeat'(first|refine zQ ?_|refine zF h1 ?_|refine zF h2 ?_|(refine zC ?_ ?_<;>first|intro h|simp)|fail)
  all_goals first
   |exact qcF rfl rfl rfl rfl
   |(exfalso;omega)
   |trace_state
 have hkl:(qiE s nm).toNat<s.zones.length:=qkE hk
 obtain⟨k,ek⟩:=Int.eq_ofNat_of_zero_le hk
 have hkk:(qiE s nm).toNat=k:=by omega
 rw[List.getElem?_eq_getElem hkl]
 simp only[if_pos hk]
 rw[ek]at h2
 simp only[hkk]at hkl ⊢
 unfold qrH
 generalize hP:(fun i=>qdy s.bed i s.zones[k])=pz
 refine zT mix Tryz.func65 Tryz.ntmps65 Tryz.results65 rfl rfl rfl ?_;simp only[qab,Nat.reduceAdd]
 repeat'(first|refine zQ ?_|refine zF h1 ?_|refine zF h2 ?_|fail)
 all_goals try(exfalso;omega)
 refine qad s.bed.levels.length (fun i=>⟨[(8,.os 1 0 ((List.range i).filter pz).length),(25,.int .i64 i),(24,.int .i64 s.bed.levels.length),(7,.int .i64 (k:Int)),(2,.op 0 0 0)],[(1,⟨1,true,((List.range i).filter pz).map qcx⟩),(0,⟨12,true,[encSite s]⟩)],64,43⟩) (fun i=>True) ?_ trivial ?_
 ·exact qaa (nx:=64) (k:=1) (ns:=[(8,1)]) (ks:=[25,24,7,2]) [(0,0)] rfl (by simp;rfl) (by kernel_rfl)
 intro i hi _
 have hfl:=qrE pz i
 by_cases hL:i<s.bed.levels.length
 ·have h3:=qpZ s.bed hs.bed i hL s.zones[k] (hzn.2 k hkl)
  have hp:qdy s.bed i s.zones[k]=pz i:=by rw[←hP]
  rw[hp]at h3
  repeat'(first|refine zQ ?_|refine zF h3 ?_|(refine zI ?_;intro hlt)|(refine zC ?_ ?_<;>first|intro h|simp)|fail)
  all_goals try exact absurd hL (by omega)
  ·refine qaH (f:=qcx) (a:=i) (l:=(List.range i).filter pz) qlD rfl rfl rfl rfl rfl rfl (by kernel_rfl) (by kernel_rfl) (by omega) rfl ?_
   repeat'(first|refine zQ ?_|fail)
   refine⟨hL,trivial,?_⟩
   have hp:pz i=true:=by assumption
   have el:((List.range i).filter pz).length+1=((List.range (i+1)).filter pz).length:=by rw[←qjo hp];simp
   rw[qjo hp,el]
   exact qaa (nx:=64) (k:=1) (ns:=[]) (ks:=[8,25,24,7,2]) [(1,1),(0,0)] rfl (by simp) (by kernel_rfl)
  ·refine⟨hL,trivial,?_⟩
   rw[qyc (by assumption)]
   exact qaa (nx:=64) (k:=1) (ns:=[]) (ks:=[8,25,24,7,2]) [(1,1),(0,0)] rfl (by simp) (by kernel_rfl)
 ·obtain rfl:i=s.bed.levels.length:=by omega
  repeat'(first|refine zQ ?_|(refine zI ?_;intro hlt)|(refine zC ?_ ?_<;>first|intro h|simp)|fail)
  all_goals first
   |exact absurd (show s.bed.levels.length<s.bed.levels.length by omega) hL
   |exact qcF rfl rfl (qdY (f:=qcx) (m:=63) rfl rfl) rfl
   |trace_state
def qrI(s:Site)(i:Nat)(acc x:Int):Int:=if lv s.bed.levels x.toNat=30000 then acc else max acc (lv s.bed.levels x.toNat-qba s.ground s.bed i x.toNat)
def qlY(s:Site)(i:Nat)(N:List Int)(a:Int)(j:Nat):Int:=(N.take j).foldl (qrI s i) a
theorem qfw{s:Site}{i j:Nat}{N:List Int}{a:Int}(h:j<N.length):qlY s i N a (j+1)=qrI s i (qlY s i N a j) N[j]:=by
 unfold qlY;rw[List.take_succ_eq_append_getElem h,List.foldl_append];rfl
noncomputable def qjS(s:Site)(i:Nat):Int:=if(qtl s i).2=true then max (-20000) (qtl s i).1 else -20000
noncomputable def qee(s:Site)(i:Nat):Int:=if qd2 s i=true then lv s.bed.levels i else min (qlY s i (qbi s.bed i s.bed.levels.length) (qjS s i) (qbi s.bed i s.bed.levels.length).length) (lv s.bed.levels i)
theorem qrJ{s:Site}{i:Nat}{x:Int}(h:x∈qbi s.bed i s.bed.levels.length):∃k:Nat,x=k∧k<s.bed.levels.length∧qbl s.bed i k=true:=by
 obtain⟨k,h1,h2,h3⟩:=(qcW s.bed i x _).1 h
 exact⟨k,h2,h1,h3⟩
noncomputable def qdf(s:Site)(cell:Int):Int×Int:=if qda s≠0 then(0,qda s)else if ¬(0≤cell∧cell<s.bed.levels.length)then(0,6)else if lv s.bed.levels cell.toNat=30000 then(0,12)else(qee s cell.toNat,0)
theorem qnn(s:Site)(hz:Sized s)(cell:Int):Contract Tryz.prog 66 [.agg (encSite s),.int .i64 cell] (.ret (.tup [.int .i64 (qdf s cell).1,.int .i64 (qdf s cell).2])):=by
 have h1:=qfR s hz
 unfold qdf
 by_cases h0:qda s=0
 rotate_left
 ·rw[if_pos h0]
  generalize qda s=q at*
  refine zT mix Tryz.func66 Tryz.ntmps66 Tryz.results66 rfl rfl rfl ?_;simp only[qab,Nat.reduceAdd]
  repeat'(first|refine zQ ?_|refine zF h1 ?_|(refine zC ?_ ?_<;>first|intro h|simp)|refine zE ?_|fail)
  all_goals first
   |rfl
   |(exfalso;omega)
   |trace_state
 rw[if_neg (not_not_intro h0)]
 rw[h0]at h1
 have hs:=qtc h0
 have hsm:=hs.bed.small
 by_cases hc:0≤cell∧cell<s.bed.levels.length
 rotate_left
 ·rw[if_pos hc]
  refine zT mix Tryz.func66 Tryz.ntmps66 Tryz.results66 rfl rfl rfl ?_;simp only[qab,Nat.reduceAdd]
  repeat'(first|((with_reducible apply qae);rfl;(exact qml _ _ _);rfl)|refine zQ ?_|refine zF h1 ?_|(refine zI ?_;intro hlt)|(refine zC ?_ ?_<;>first|intro h|simp)|refine zE ?_|fail)
  all_goals first
   |rfl
   |(exfalso;omega)
   |trace_state
 rw[if_neg (not_not_intro hc)]
 obtain⟨i,rfl⟩:=Int.eq_ofNat_of_zero_le hc.1
 have hi:i<s.bed.levels.length:=by omega
 simp only[Int.toNat_natCast]
 have hlv:=qbv hi
 by_cases hu:lv s.bed.levels i=30000
 ·rw[if_pos hu]
  rw[hlv]at hu
  refine zT mix Tryz.func66 Tryz.ntmps66 Tryz.results66 rfl rfl rfl ?_;simp only[qab,Nat.reduceAdd]
  repeat'(first|((with_reducible apply qae);rfl;(exact qml _ _ _);rfl)|refine zQ ?_|refine zF h1 ?_|(refine zI ?_;intro hlt)|(refine zC ?_ ?_<;>first|intro h|simp)|refine zE ?_|fail)
  all_goals first
   |rfl
   |(exfalso;omega)
   |trace_state
 rw[if_neg hu]
 have h2:=qlJ s hs i hi
 unfold qee
 rw[hlv]at hu ⊢
 cases hg:qd2 s i
 rotate_left
 ·rw[hg]at h2
  refine zT mix Tryz.func66 Tryz.ntmps66 Tryz.results66 rfl rfl rfl ?_;simp only[qab,Nat.reduceAdd]
  repeat'(first|((with_reducible apply qae);rfl;(exact qml _ _ _);rfl)|refine zQ ?_|refine zF h1 ?_|refine zF h2 ?_|(refine zI ?_;intro hlt)|(refine zC ?_ ?_<;>first|intro h|simp)|refine zE ?_|fail)
  all_goals first
   |rfl
   |(exfalso;omega)
   |(exfalso;simp at *;done)
   |trace_state
 rw[hg]at h2
 have h3:=qxY s hs i hi
 have h4:=qsu qrk (qKq s.bed hs.bed hs.be i hi)
 have hNl:=qd0 s.bed i s.bed.levels.length
 have h5:=fun x=>c58 s.ground hz.so hz.bo s.bed hz.lv (i:Int) x
 simp only[Bool.false_eq_true,if_false]
 have hin:=fun(j:Nat) (h:j<(qbi s.bed i s.bed.levels.length).length)=>qrJ (s:=s) (i:=i) (List.getElem_mem h)
 have hgr:qbg s.ground [s.bed]=0:=by
  unfold qbg
  rw[if_neg (not_not_intro hs.gr),if_neg]
  show ¬qc8 [qa2 s.bed]≠0
  rw[hs.be];decide
 unfold qjS
 generalize hw:qtl s i=w at*
 obtain⟨w1,w2⟩:=w
 generalize ha:(if(w1,w2).2=true then max (-20000) (w1,w2).1 else(-20000:Int))=a0
 have ha':a0=if w2=true then max (-20000) w1 else -20000:=ha.symm
 generalize qbi s.bed i s.bed.levels.length=N at*
 cases w2
 ·simp only[Bool.false_eq_true,if_false]at ha'
  subst ha'
  refine zT mix Tryz.func66 Tryz.ntmps66 Tryz.results66 rfl rfl rfl ?_;simp only[qab,Nat.reduceAdd]
  repeat'(first|((with_reducible apply qae);rfl;(exact qml _ _ _);rfl)|refine zQ ?_|refine zF h1 ?_|refine zF h2 ?_|refine zF h3 ?_|refine zF h4 ?_|(refine zI ?_;intro hlt)|(refine zC ?_ ?_<;>first|intro h|simp)|refine zE ?_|fail)
  all_goals try(exfalso;omega)
  refine qad N.length (fun j=>⟨[(8,.int .i64 (qlY s i N (-20000) j)),(70,.int .i64 j),(69,.int .i64 N.length),(68,.sl (N.map qal)),(7,.int .i64 s.bed.levels[i]),(1,.int .i64 i),(2,.op 0 0 0)],[(0,⟨12,true,[encSite s]⟩)],32,101⟩) (fun j=>True) ?_ trivial ?_
  ·exact qaa (nx:=32) (k:=0) (ns:=[]) (ks:=[8,70,69,68,7,1,2]) [(0,0)] rfl (by simp) (by kernel_rfl)
  intro j hj _
  by_cases hL:j<N.length
  ·obtain⟨x,hx,hxl,hxb⟩:=hin j hL
   have hxn:N[j].toNat<s.bed.levels.length:=by omega
   have hxv:=qbv hxn
   have hrx:=qjP hs.bed hxn
   have hal:=qfr (okG hs.gr) hs.bed i N[j].toNat
   have h6:=h5 N[j]
   have e6:qc2 s.ground s.bed i N[j]=(qba s.ground s.bed i N[j].toNat,0):=by
    unfold qc2
    rw[if_neg (not_not_intro hgr),if_neg (not_not_intro ⟨⟨by omega,by omega⟩,by omega,by omega⟩),hx]
    simp only[Int.toNat_natCast]
    rw[if_pos hxb]
   rw[e6]at h6
   have hs1:=qfw (s:=s) (i:=i) (a:=(-20000)) hL
   unfold qrI at hs1
   rw[hxv]at hs1 hrx
   repeat'(first|refine zQ ?_|refine zF h6 ?_|(refine zI ?_;intro hlt)|(refine zC ?_ ?_<;>first|intro h|simp)|refine zE ?_|fail)
   all_goals first
    |exact absurd hL (by omega)
    |(refine⟨hL,trivial,?_⟩
      rw[hs1]
      first|rw[if_pos (by assumption)]|rw[if_neg (by assumption)]
      exact qaa (nx:=32) (k:=0) (ns:=[]) (ks:=[8,70,69,68,7,1,2]) [(0,0)] rfl (by simp) (by kernel_rfl))
    |trace_state
  ·obtain rfl:j=N.length:=by omega
   repeat'(first|refine zQ ?_|(refine zI ?_;intro hlt)|(refine zC ?_ ?_<;>first|intro h|simp)|refine zE ?_|fail)
   all_goals first
    |exact absurd (show N.length<N.length by omega) hL
    |rfl
    |trace_state
 ·simp only[if_true]at ha'
  subst ha'
  refine zT mix Tryz.func66 Tryz.ntmps66 Tryz.results66 rfl rfl rfl ?_;simp only[qab,Nat.reduceAdd]
  repeat'(first|((with_reducible apply qae);rfl;(exact qml _ _ _);rfl)|refine zQ ?_|refine zF h1 ?_|refine zF h2 ?_|refine zF h3 ?_|refine zF h4 ?_|(refine zI ?_;intro hlt)|(refine zC ?_ ?_<;>first|intro h|simp)|refine zE ?_|fail)
  all_goals try(exfalso;omega)
  refine qad N.length (fun j=>⟨[(8,.int .i64 (qlY s i N (max (-20000) w1) j)),(70,.int .i64 j),(69,.int .i64 N.length),(68,.sl (N.map qal)),(7,.int .i64 s.bed.levels[i]),(1,.int .i64 i),(2,.op 0 0 0)],[(0,⟨12,true,[encSite s]⟩)],32,101⟩) (fun j=>True) ?_ trivial ?_
  ·exact qaa (nx:=32) (k:=0) (ns:=[]) (ks:=[8,70,69,68,7,1,2]) [(0,0)] rfl (by simp) (by kernel_rfl)
  intro j hj _
  by_cases hL:j<N.length
  ·obtain⟨x,hx,hxl,hxb⟩:=hin j hL
   have hxn:N[j].toNat<s.bed.levels.length:=by omega
   have hxv:=qbv hxn
   have hrx:=qjP hs.bed hxn
   have hal:=qfr (okG hs.gr) hs.bed i N[j].toNat
   have h6:=h5 N[j]
   have e6:qc2 s.ground s.bed i N[j]=(qba s.ground s.bed i N[j].toNat,0):=by
    unfold qc2
    rw[if_neg (not_not_intro hgr),if_neg (not_not_intro ⟨⟨by omega,by omega⟩,by omega,by omega⟩),hx]
    simp only[Int.toNat_natCast]
    rw[if_pos hxb]
   rw[e6]at h6
   have hs1:=qfw (s:=s) (i:=i) (a:=(max (-20000) w1)) hL
   unfold qrI at hs1
   rw[hxv]at hs1 hrx
   repeat'(first|refine zQ ?_|refine zF h6 ?_|(refine zI ?_;intro hlt)|(refine zC ?_ ?_<;>first|intro h|simp)|refine zE ?_|fail)
   all_goals first
    |exact absurd hL (by omega)
    |(refine⟨hL,trivial,?_⟩
      rw[hs1]
      first|rw[if_pos (by assumption)]|rw[if_neg (by assumption)]
      exact qaa (nx:=32) (k:=0) (ns:=[]) (ks:=[8,70,69,68,7,1,2]) [(0,0)] rfl (by simp) (by kernel_rfl))
    |trace_state
  ·obtain rfl:j=N.length:=by omega
   repeat'(first|refine zQ ?_|(refine zI ?_;intro hlt)|(refine zC ?_ ?_<;>first|intro h|simp)|refine zE ?_|fail)
   all_goals first
    |exact absurd (show N.length<N.length by omega) hL
    |rfl
    |trace_state
noncomputable def qno(s:Site)(i j:Nat):Int:=if(qqE s i j).2=true then max (-20000) (qqE s i j).1 else -20000
theorem qrK{s:Site}{i j:Nat}(hj:j<s.quays.length):qno s i (j+1)=if qhh s.quays[j] s.bed i=30000 then qno s i j else max (qno s i j) (qhh s.quays[j] s.bed i):=by
 unfold qno
 rw[qlK hj]
 generalize qhh s.quays[j] s.bed i=w
 generalize qqE s i j=st
 obtain⟨a,b⟩:=st
 by_cases hw:w=30000
 ·rw[if_pos hw,qxW hw]
 ·rw[if_neg hw]
  cases b
  ·rw[qxV hw rfl]
   simp
  ·by_cases h2:a<w
   ·rw[qxU hw h2]
    simp only[if_true];omega
   ·rw[qxX rfl h2]
    simp only[if_true];omega
theorem qvk(s:Site)(hz:Sized s)(hs:OkSite s)(i:Nat)(hi:i<s.bed.levels.length)(hu:lv s.bed.levels i≠30000):Contract Tryz.prog 68 [.agg (encSite s),.int .i64 i] (.ret (.int .i64 (qee s i))):=by
 have hsm:=hs.bed.small
 have hlv:=qbv hi
 have hzn:=hs.zone
 have hqy:=hs.quay
 unfold qee
 rw[hlv]
 refine zT mix Tryz.func68 Tryz.ntmps68 Tryz.results68 rfl rfl rfl ?_;simp only[qab,Nat.reduceAdd]
 repeat'(first|refine zQ ?_|(refine zI ?_;intro hlt)|fail)
 refine qad s.zones.length (fun j=>⟨[(6,.int .i64 j),(5,.int .i64 s.bed.levels[i]),(1,.int .i64 i),(2,.op 0 0 0)],[(0,⟨12,true,[encSite s]⟩)],32,99⟩) (fun j=>∀m (hm:m<s.zones.length),m<j→qdy s.bed i s.zones[m]=false) ?_ (by omega) ?_
 ·exact qaa (nx:=32) (k:=0) (ns:=[]) (ks:=[6,5,1,2]) [(0,0)] rfl (by simp) (by kernel_rfl)
 intro j hj hC
 by_cases hL:j<s.zones.length
 ·have h4:=qru s.bed hs.bed i hi s.zones[j] (hzn.2 j hL)
  repeat'(first|refine zQ ?_|refine zF h4 ?_|(refine zI ?_;intro hlt)|(refine zC ?_ ?_<;>first|intro h|simp)|refine zE ?_|fail)
  all_goals first
   |exact absurd hL (by omega)
   |(rw[if_pos (show qd2 s i=true from qqe hL (by assumption))];done)
   |(refine⟨hL,fun m hm hmj=>?_,qaa (nx:=32) (k:=0) (ns:=[]) (ks:=[6,5,1,2]) [(0,0)] rfl (by simp) (by kernel_rfl)⟩
     rcases Nat.lt_succ_iff_lt_or_eq.1 hmj with h'|rfl
     ·exact hC m hm h'
     ·assumption)
   |trace_state
 rw[if_neg (by rw[show qd2 s i=false from qtv fun m hm=>hC m hm (by omega)];simp)]
 repeat'(first|refine zQ ?_|(refine zI ?_;intro hlt)|(refine zC ?_ ?_<;>first|intro h|simp)|fail)
 all_goals try exact absurd hL (by omega)
 refine qad s.quays.length (fun j=>⟨[(7,.int .i64 (qno s i j)),(8,.int .i64 j),(5,.int .i64 s.bed.levels[i]),(1,.int .i64 i),(2,.op 0 0 0)],[(0,⟨12,true,[encSite s]⟩)],32,99⟩) (fun j=>True) ?_ trivial ?_
 ·exact qaa (nx:=32) (k:=0) (ns:=[]) (ks:=[7,8,5,1,2]) [(0,0)] rfl (by simp) (by kernel_rfl)
 intro j2 hj2 _
 by_cases hL2:j2<s.quays.length
 ·have h3:=qCP s.bed hs.bed i hi
  have h4:=qqf s hs s.bed (qfW s hs) j2 hL2 i hi
  have hst:=qrK (i:=i) hL2
  generalize qhh s.quays[j2] s.bed i=w at*
  repeat'(first|refine zQ ?_|refine zF h3 ?_|refine zF h4 ?_|(refine zI ?_;intro hlt)|(refine zC ?_ ?_<;>first|intro h|simp)|fail)
  all_goals first
   |exact absurd hL2 (by omega)
   |(refine⟨hL2,trivial,?_⟩
     rw[hst]
     first|rw[if_pos (by assumption)]|rw[if_neg (by assumption)]
     exact qaa (nx:=32) (k:=0) (ns:=[]) (ks:=[7,8,5,1,2]) [(0,0)] rfl (by simp) (by kernel_rfl))
   |trace_state
 have e:qno s i s.quays.length=qjS s i:=rfl
 obtain rfl:j2=s.quays.length:=by omega
 rw[e]
 generalize qjS s i=a0 at*
 have h5:=qq8 qrk (qKn s.bed hs.bed i hi)
 have hNl:=qd0 s.bed i s.bed.levels.length
 have hin:=fun(j:Nat) (h:j<(qbi s.bed i s.bed.levels.length).length)=>qrJ (s:=s) (i:=i) (List.getElem_mem h)
 generalize qbi s.bed i s.bed.levels.length=N at*
 repeat'(first|refine zQ ?_|refine zF h5 ?_|(refine zI ?_;intro hlt)|(refine zC ?_ ?_<;>first|intro h|simp)|fail)
 all_goals try exact absurd (show s.quays.length<s.quays.length by omega) hL2
 refine qad N.length (fun j=>⟨[(7,.int .i64 (qlY s i N a0 j)),(11,.int .i64 j),(10,.sl (N.map qal)),(5,.int .i64 s.bed.levels[i]),(1,.int .i64 i),(2,.op 0 0 0)],[(0,⟨12,true,[encSite s]⟩)],32,99⟩) (fun j=>True) ?_ trivial ?_
 ·exact qaa (nx:=32) (k:=0) (ns:=[]) (ks:=[7,11,10,5,1,2]) [(0,0)] rfl (by simp) (by kernel_rfl)
 intro j hj _
 by_cases hM:j<N.length
 ·obtain⟨x,hx,hxl,hxb⟩:=hin j hM
  have hxn:N[j].toNat<s.bed.levels.length:=by omega
  have hxv:=qbv hxn
  have hrx:=qjP hs.bed hxn
  have hal:=qfr (okG hs.gr) hs.bed i N[j].toNat
  have h6:Contract Tryz.prog 137 [.agg (qam s.ground),.agg (qag s.bed),.int .i64 i,.int .i64 N[j]] (.ret (.int .i64 (qba s.ground s.bed i N[j].toNat))):=qKu s.ground (okG hs.gr) hz.so s.bed hs.bed (i:Int) N[j] (by omega) (by omega)
  have h7:=qC5 s.bed N[j] (by omega) (by omega)
  have hs1:=qfw (s:=s) (i:=i) (a:=a0) hM
  unfold qrI at hs1
  rw[hxv]at hs1 hrx h7
  repeat'(first|((with_reducible apply(qdR 22));decide +kernel;rfl)|refine zS ?_|refine zA ?_|refine zF h6 ?_|refine zF h7 ?_|(refine zI ?_;intro hlt)|(refine zC ?_ ?_<;>first|intro h|simp)|refine zE ?_|fail)
  all_goals first
   |exact absurd hM (by omega)
   |(refine⟨hM,trivial,?_⟩
     rw[hs1]
     first|rw[if_pos (by assumption)]|rw[if_neg (by assumption)]
     exact qaa (nx:=32) (k:=0) (ns:=[]) (ks:=[7,11,10,5,1,2]) [(0,0)] rfl (by simp) (by kernel_rfl))
   |trace_state
 ·obtain rfl:j=N.length:=by omega
  repeat'(first|(with_reducible rfl)|refine zQ ?_|(refine zI ?_;intro hlt)|(refine zC ?_ ?_<;>first|intro h|simp)|refine zE ?_|fail)
  all_goals first
   |exact absurd (show N.length<N.length by omega) hM
   |rfl
   |trace_state
theorem qvr(o:Option (Int×Int)):∃x y z,qve o=[.int .i64 x,.int .i64 y,.int .i64 z]:=by cases o<;>exact⟨_,_,_,rfl⟩
def qhM(nm:ByteArray)(l:List qe7):Nat→Int
 |0=> -1
 |i+1=>match l[i]? with
  |some z=>if z.name=nm then(i:Int)else qhM nm l i
  |none=>qhM nm l i
theorem qg0{nm:ByteArray}{l:List qe7}{i:Nat}(h:i<l.length):qhM nm l (i+1)=if l[i].name=nm then(i:Int)else qhM nm l i:=by simp only[qhM,List.getElem?_eq_getElem h]
theorem qqw{nm:ByteArray}{l:List qe7}:∀i,-1≤qhM nm l i∧qhM nm l i<i
 |0=>by simp[qhM]
 |i+1=>by
  have ih:=qqw (nm:=nm) (l:=l) i
  simp only[qhM]
  split
  ·split<;>omega
  ·omega
theorem qnq{nm:ByteArray}{l:List qe7}:∀i,(∀j (hj:j<l.length),j<i→l[j].name≠nm)→qhM nm l i= -1
 |0,_=>rfl
 |i+1,h=>by
  have ih:=qnq (nm:=nm) (l:=l) i fun j hj hji=>h j hj (by omega)
  by_cases hi:i<l.length
  ·rw[qg0 hi,if_neg (h i hi (by omega)),ih]
  ·simp only[qhM,List.getElem?_eq_none (Nat.le_of_not_lt hi)];exact ih
theorem qtN{nm:ByteArray}{l:List qe7}{m:Nat}(hm:m<l.length)(he:l[m].name=nm):∀i,m<i→(∀j (hj:j<l.length),m<j→j<i→l[j].name≠nm)→qhM nm l i=m
 |0,h,_=>by omega
 |i+1,h,hu=>by
  by_cases e:m=i
  ·subst e
   rw[qg0 hm,if_pos he]
  ·have ih:=qtN hm he i (by omega) fun j hj h1 h2=>hu j hj h1 (by omega)
   by_cases hi:i<l.length
   ·rw[qg0 hi,if_neg (hu i hi (by omega) (by omega)),ih]
   ·simp only[qhM,List.getElem?_eq_none (Nat.le_of_not_lt hi)];exact ih
theorem qqx{α:Type}{nm:α→ByteArray}{er:α→Int}{l:List α}(h:qg4 nm er l=0){i j:Nat}(hj:j<l.length)(hij:i<j):nm (l[i]'(by omega))≠nm l[j]:=by
 have:=qde h j hj
 simp only[qcf,List.getElem?_eq_getElem hj]at this
 intro he
 split at this
 ·cases this
 ·split at this
  ·cases this
  ·rename_i h2
   apply h2
   rw[List.any_eq_true]
   exact⟨l[i]'(by omega),by rw[List.mem_take_iff_getElem];exact⟨i,by omega,rfl⟩,decide_eq_true he⟩
theorem qDQ{s:Site}(hs:OkSite s)(nm:ByteArray):qhM nm s.zones s.zones.length=qiE s nm:=by
 have hz:=hs.zo
 unfold qdZ at hz
 split at hz
 ·cases hz
 unfold qiE
 by_cases he:∃m,∃(hm:m<s.zones.length),s.zones[m].name=nm
 ·obtain⟨m,hm,e⟩:=he
  rw[qa1 hm (decide_eq_true e) fun j hj=>decide_eq_false fun e2=>qqx hz hm hj (e2.trans e.symm)]
  exact qtN hm e _ hm fun j hj h1 _ e2=>qqx hz hj h1 (e.trans e2.symm)
 ·rw[qa8 fun x hx=>?_]
  ·exact qnq _ fun j hj _ e=>he ⟨j,hj,e⟩
  ·obtain⟨j,hj,rfl⟩:=List.getElem_of_mem hx
   exact decide_eq_false fun e=>he ⟨j,hj,e⟩
theorem law_cells(s:Site)(hw:Wide s)(zone:ByteArray)(cell:Int)(hcl:I64 cell):Contract Tryz.prog 12 [.agg (encSite s),.str zone,.int .i64 cell] (.ret (.bool true)):=by
 have h0:=qoC
 have h1:=qkv s hw
 cases hs:qmv s with
 |false=>
  rw[hs]at h1
  refine zT mix Tryz.func12 Tryz.ntmps12 Tryz.results12 rfl rfl rfl ?_;simp only[qab,Nat.reduceAdd]
  repeat'(first|(with_reducible rfl)|refine zQ ?_|refine zF h0 ?_|refine zF h1 ?_|refine zE ?_|fail)
  all_goals first|rfl|(exfalso;simp at *;done)|trace_state
 |true=>
 rw[hs]at h1
 obtain⟨hz,h16,hd8,hzn,_,hso⟩:=qgZ hw hs
 have h2:=qFz s hz zone
 have h3:=qnn s hz cell
 have h4:=qhF s hz
 by_cases hsi:qda s=0
 rotate_left
 ·have e1:qmu s zone=([],qda s):=if_pos hsi
  have e2:qdf s cell=(0,qda s):=if_pos hsi
  rw[e1]at h2
  rw[e2]at h3
  generalize qda s=q at*
  refine zT mix Tryz.func12 Tryz.ntmps12 Tryz.results12 rfl rfl rfl ?_;simp only[qab,Nat.reduceAdd]
  repeat'(first|(with_reducible rfl)|refine zQ ?_|refine zF h0 ?_|refine zF h1 ?_|refine zF h2 ?_|refine zF h3 ?_|refine zF h4 ?_|(refine zC ?_ ?_<;>first|intro h|simp)|(refine zG ?_ ?_<;>first|intro h|simp)|refine zE ?_|fail)
  all_goals first|rfl|(simp;done)|(exfalso;omega)|(exfalso;simp at *;done)|trace_state
 have hok:=qtc hsi
 rw[hsi]at h4
 have hli:=qDQ hok zone
 have hlr:=qqw (nm:=zone) (l:=s.zones) s.zones.length
 by_cases hzs:zone.size≤50
 rotate_left
 ·refine zT mix Tryz.func12 Tryz.ntmps12 Tryz.results12 rfl rfl rfl ?_;simp only[qab,Nat.reduceAdd]
  repeat'(first|(with_reducible rfl)|refine zQ ?_|refine zF h0 ?_|refine zF h1 ?_|(refine zC ?_ ?_<;>first|intro h|simp)|refine zE ?_|fail)
  all_goals first|rfl|(exfalso;omega)|trace_state
 refine zT mix Tryz.func12 Tryz.ntmps12 Tryz.results12 rfl rfl rfl ?_;simp only[qab,Nat.reduceAdd]
 repeat'(first|refine zQ ?_|refine zF h0 ?_|refine zF h1 ?_|refine zF h2 ?_|refine zF h3 ?_|refine zF h4 ?_|(refine zC ?_ ?_<;>first|intro h|simp)|fail)
 all_goals try(exfalso;omega)
 refine qad s.zones.length (fun i=>⟨[(13,.int .i64 i),(12,.int .i64 (qhM zone s.zones i)),(10,.int .i64 (qdf s cell).2),(9,.int .i64 (qdf s cell).1),(8,.int .i64 (qmu s zone).2),(7,.sl ((qmu s zone).1.map qcx)),(3,.op 0 0 0),(1,.str zone),(2,.int .i64 cell)],[(0,⟨12,true,[encSite s]⟩)],32,144⟩) (fun _=>True) ?_ trivial ?_
 ·exact qaa (nx:=32) (k:=0) (ns:=[]) (ks:=[13,12,10,9,8,7,3,1,2]) [(0,0)] rfl (by simp) (by kernel_rfl)
 intro i hi _
 by_cases hL:i<s.zones.length
 ·have hsu:=qg0 (nm:=zone) hL
  by_cases hnm:s.zones[i].name=zone
  ·rw[if_pos hnm]at hsu
   rw[hsu]
   repeat'(first|refine zQ ?_|(refine zI ?_;intro hlt)|(refine zC ?_ ?_<;>first|intro h|simp)|(refine zG ?_ ?_<;>first|intro h|simp)|((with_reducible apply qaz);rfl;rfl)|fail)
   all_goals first
    |exact absurd hL (by omega)
    |(exfalso;simp[hnm]at *;done)
    |exact⟨hL,trivial,qaa (nx:=32) (k:=0) (ns:=[]) (ks:=[13,12,10,9,8,7,3,1,2]) [(0,0)] rfl (by simp) (by kernel_rfl)⟩
    |trace_state
  ·rw[if_neg hnm]at hsu
   rw[hsu]
   repeat'(first|refine zQ ?_|(refine zI ?_;intro hlt)|(refine zC ?_ ?_<;>first|intro h|simp)|(refine zG ?_ ?_<;>first|intro h|simp)|((with_reducible apply qaz);rfl;rfl)|fail)
   all_goals first
    |exact absurd hL (by omega)
    |(exfalso;simp[hnm]at *;done)
    |exact⟨hL,trivial,qaa (nx:=32) (k:=0) (ns:=[]) (ks:=[13,12,10,9,8,7,3,1,2]) [(0,0)] rfl (by simp) (by kernel_rfl)⟩
    |trace_state
 obtain rfl:i=s.zones.length:=by omega
 rw[hli]
 repeat'(first|refine zA ?_|fail)
 all_goals try exact absurd (show s.zones.length<s.zones.length by omega) hL
 refine qbK ?_
 repeat'(first|refine zA ?_|fail)
 all_goals try exact absurd (show s.zones.length<s.zones.length by omega) hL
 refine qbK ?_
 repeat'(first|(with_reducible apply qbD)|refine zA ?_|(refine zC ?_ ?_<;>first|intro h|simp)|fail)
 all_goals try exact absurd (show s.zones.length<s.zones.length by omega) hL
 have hsm:=hok.bed.small
 refine Or.inr ⟨⟨[(10,.int .i64 (qdf s cell).2),(9,.int .i64 (qdf s cell).1),(3,.op 0 0 0),(2,.int .i64 cell)],[(0,⟨12,true,[encSite s]⟩)],32,144⟩,?_,?_⟩
 ·by_cases hk:0≤qiE s zone
  rotate_left
  ·have e:qmu s zone=([],6):=by
    unfold qmu
    rw[if_neg (not_not_intro hsi)]
    split
    ·rw[if_neg hk]
    ·rfl
   rw[e]
   repeat'(first|refine zQ ?_|(refine zC ?_ ?_<;>first|intro h|simp)|fail)
   all_goals first
    |(exfalso;omega)
    |exact qaa (nx:=32) (k:=0) (ns:=[]) (ks:=[10,9,3,2]) [(0,0)] rfl (by simp) (by kernel_rfl)
    |(exfalso;simp at *;done)
    |trace_state
  have hkl:(qiE s zone).toNat<s.zones.length:=qkE hk
  obtain⟨k,ek⟩:=Int.eq_ofNat_of_zero_le hk
  have hkk:(qiE s zone).toNat=k:=by omega
  have e:qmu s zone=(qrH s (s.zones[k]'(by omega)),0):=by
   unfold qmu
   rw[if_neg (not_not_intro hsi),List.getElem?_eq_getElem hkl]
   simp only[if_pos hk,hkk]
  rw[e,ek]
  have hkl2:k<s.zones.length:=by omega
  have hzo:=hok.zone
  generalize hzz:s.zones[k]=zz at*
  repeat'(first|refine zQ ?_|fail)
  all_goals try(exfalso;omega)
  have hfull:(List.range s.bed.levels.length).filter (fun i=>qdy s.bed i zz)=qrH s zz:=rfl
  generalize hP:(fun i=>qdy s.bed i zz)=pz at*
  refine qad s.bed.levels.length (fun i=>⟨[(14,.os 1 0 ((List.range i).filter pz).length),(15,.int .i64 i),(12,.int .i64 (k:Int)),(10,.int .i64 (qdf s cell).2),(9,.int .i64 (qdf s cell).1),(8,.int .i64 0),(7,.sl ((qrH s zz).map qcx)),(3,.op 0 0 0),(2,.int .i64 cell)],[(1,⟨1,true,((List.range i).filter pz).map qcx⟩),(0,⟨12,true,[encSite s]⟩)],64,144⟩) (fun _=>True) ?_ trivial ?_
  ·exact qaa (nx:=64) (k:=1) (ns:=[(14,1)]) (ks:=[15,12,10,9,8,7,3,2]) [(0,0)] rfl (by simp;rfl) (by kernel_rfl)
  intro i hi _
  have hfl:=qrE pz i
  by_cases hC:i<s.bed.levels.length
  rotate_left
  ·obtain rfl:i=s.bed.levels.length:=by omega
   rw[hfull]
   have b1:=qyR (qrH s zz) (by rw[←hfull];omega)
   repeat'(first|((with_reducible apply qae);(exact qek rfl rfl (by simp) rfl);(exact b1);rfl)|refine zQ ?_|(refine zI ?_;intro hlt)|(refine zC ?_ ?_<;>first|intro h|simp)|fail)
   all_goals first
    |exact absurd (show s.bed.levels.length<s.bed.levels.length by omega) hC
    |exact qaa (nx:=32) (k:=0) (ns:=[]) (ks:=[10,9,3,2]) [(0,0)] rfl (by simp) (by kernel_rfl)
    |(exfalso;simp at *;done)
    |trace_state
  have b2:Contract Tryz.prog 61 [.agg (qag s.bed),.int .i64 i,.agg (qbw (s.zones[k]'hkl2))] (.ret (.bool (pz i))):=by
   have:=qru s.bed hok.bed i hC s.zones[k] (hzo.2 k hkl2)
   rw[←hP,←hzz];exact this
  cases hp:pz i with
  |true=>
   rw[hp]at b2
   repeat'(first|refine zQ ?_|refine zF b2 ?_|(refine zI ?_;intro hlt)|(refine zC ?_ ?_<;>first|intro h|simp)|fail)
   all_goals try exact absurd hC (by omega)
   refine qaH (f:=qcx) (a:=i) (l:=(List.range i).filter pz) qlD rfl rfl rfl rfl rfl rfl (by kernel_rfl) (by kernel_rfl) (by omega) rfl ?_
   repeat'(first|refine zQ ?_|fail)
   refine⟨hC,trivial,?_⟩
   have el:((List.range i).filter pz).length+1=((List.range (i+1)).filter pz).length:=by rw[←qjo hp];simp
   rw[qjo hp,el]
   exact qaa (nx:=64) (k:=1) (ns:=[]) (ks:=[14,15,12,10,9,8,7,3,2]) [(1,1),(0,0)] rfl (by simp) (by kernel_rfl)
  |false=>
   rw[hp]at b2
   rw[qyc hp]
   repeat'(first|refine zQ ?_|refine zF b2 ?_|(refine zI ?_;intro hlt)|(refine zC ?_ ?_<;>first|intro h|simp)|fail)
   all_goals first
    |exact absurd hC (by omega)
    |exact⟨hC,trivial,qaa (nx:=64) (k:=1) (ns:=[]) (ks:=[14,15,12,10,9,8,7,3,2]) [(1,1),(0,0)] rfl (by simp) (by kernel_rfl)⟩
    |trace_state
 ·have c1:=c60 s.bed (by omega) cell
  by_cases hin:0≤cell∧cell<s.bed.levels.length
  rotate_left
  ·have e:qdf s cell=(0,6):=by unfold qdf;rw[if_neg (not_not_intro hsi),if_pos hin]
   rw[e]
   rw[decide_eq_false hin]at c1
   repeat'(first|refine zQ ?_|refine zF c1 ?_|refine zE ?_|fail)
   all_goals first|rfl|(simp;done)|(exfalso;simp at *;done)|trace_state
  obtain⟨i,rfl⟩:=Int.eq_ofNat_of_zero_le hin.1
  rw[decide_eq_true hin]at c1
  have hi:i<s.bed.levels.length:=by omega
  have c2:=qC5 s.bed (i:Int) hin (by omega)
  try simp only[Int.toNat_natCast]at c2
  by_cases hu:lv s.bed.levels i=30000
  ·have e:qdf s (i:Int)=(0,12):=by unfold qdf;rw[if_neg (not_not_intro hsi),if_neg (not_not_intro hin),Int.toNat_natCast,if_pos hu]
   rw[e]
   rw[decide_eq_true hu]at c2
   repeat'(first|refine zQ ?_|refine zF c1 ?_|refine zF c2 ?_|refine zE ?_|fail)
   all_goals first|rfl|(simp;done)|(exfalso;simp at *;done)|trace_state
  ·have e:qdf s (i:Int)=(qee s i,0):=by unfold qdf;rw[if_neg (not_not_intro hsi),if_neg (not_not_intro hin),Int.toNat_natCast,if_neg hu]
   rw[e]
   rw[decide_eq_false hu]at c2
   have c3:=qvk s hz hok i hi hu
   generalize qee s i=ge at*
   repeat'(first|refine zQ ?_|refine zF c1 ?_|refine zF c2 ?_|refine zF c3 ?_|refine zE ?_|fail)
   all_goals first|rfl|(simp;done)|(exfalso;simp at *;done)|trace_state
end Go.Pv.Soil

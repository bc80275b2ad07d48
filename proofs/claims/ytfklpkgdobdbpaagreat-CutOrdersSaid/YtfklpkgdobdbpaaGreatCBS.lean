import Derived.Test.YtfklpkgdobdbpaaGreatCBO
/- Part of the proofs over YtfklpkgdobdbpaaGreat: N34. -/
set_option linter.unusedVariables false
set_option linter.unusedSimpArgs false
set_option linter.unnecessarySimpa false
open Go Go.Proofs Go.Pv
set_option maxHeartbeats 8000000
set_option maxRecDepth 100000
set_option linter.unusedSimpArgs false
set_option linter.unusedVariables false
namespace Go.Pv.Soil
theorem qAo{s:Site}{b:Grid}(h:qbR s.bed b=true)(i:Nat)(z:qe7):qdy b i z=qdy s.bed i z:=by
 obtain⟨h1,h2,h3,h4,h5⟩:=qnl h
 simp only[qdy,loG,hiG,h1,h2,h3,h4]
def qvf(b:Grid)(c:Cut)(i:Nat):Int:=lv b.levels i-min (lv b.levels i) c.level
def qvg(b:Grid)(i:Nat):Int:=if lv b.levels i=30000 then 12 else 0
def qAp(s:Site)(i:Nat):Int:=if qd2 s i=true then 13 else 0
def qye(s:Site)(b:Grid)(c:Cut)(i:Nat):Int:=if(dredOf s c.dredger).bite<qvf b c i then 19 else 0
def qyf(s:Site)(b:Grid)(c:Cut)(i:Nat):Int:=if 0<qvf b c i∧qen s b c i=false then 6 else 0
theorem qqe{z:List qe7}{p:qe7→Bool}{j:Nat}(hj:j<z.length)(h:p z[j]=true):z.any p=true:=List.any_eq_true.2 ⟨_,List.getElem_mem hj,h⟩
theorem qtv{z:List qe7}{p:qe7→Bool}(h:∀j (hj:j<z.length),p z[j]=false):z.any p=false:=List.any_eq_false.2 fun x hx=>by
 obtain⟨j,hj,rfl⟩:=List.mem_iff_getElem.1 hx
 rw[h j hj];simp
section
variable (s:Site)(hs:OkSite s)(b:Grid)(hb:OkBed s b)(c:Cut)(hc:OkCut s c)(i:Nat)(hi:i<b.levels.length)
include hs hb hc hi
theorem qyg:Contract Tryz.prog 110 [.agg (encSite s),.agg (qag b),.agg (encCut c),.int .i64 i,.int .i64 2] (.ret (.int .i64 (qvg b i))):=by
 have h3:=qch s (by have:=hs.dreds;omega) c.dredger
 obtain⟨hk,ed⟩:=qcp hc.dr
 obtain⟨k,ek⟩:=Int.eq_ofNat_of_zero_le hc.dr
 have hkk:(qdb s c.dredger).toNat=k:=by omega
 rw[ek]at h3
 simp only[hkk]at hk ed
 have hsm:=hb.ok.small
 have hlv:=qbv hi
 have hrg:=qjP hb.ok hi
 have hcl:=hc.lvl
 have h4:=c41 b (by omega) i hi
 unfold qvg
 rw[hlv]at hrg ⊢
 refine zT mix Tryz.func110 Tryz.ntmps110 Tryz.results110 rfl rfl rfl ?_;simp only[qab,Nat.reduceAdd]
 repeat'(first|refine zQ ?_|refine zF h3 ?_|refine zF h4 ?_|(refine zI ?_;intro hlt)|(refine zC ?_ ?_<;>first|intro h|simp)|refine zE ?_|fail)
 all_goals first
  |(exfalso;omega)
  |(rw[if_pos (by omega)];done)
  |(rw[if_neg (by omega)];done)
  |trace_state
theorem qyh:Contract Tryz.prog 110 [.agg (encSite s),.agg (qag b),.agg (encCut c),.int .i64 i,.int .i64 4] (.ret (.int .i64 (qye s b c i))):=by
 have h3:=qch s (by have:=hs.dreds;omega) c.dredger
 obtain⟨hk,ed⟩:=qcp hc.dr
 obtain⟨k,ek⟩:=Int.eq_ofNat_of_zero_le hc.dr
 have hkk:(qdb s c.dredger).toNat=k:=by omega
 rw[ek]at h3
 simp only[hkk]at hk ed
 have hsm:=hb.ok.small
 have hlv:=qbv hi
 have hrg:=qjP hb.ok hi
 have hcl:=hc.lvl
 unfold qye qvf
 rw[hlv]at hrg ⊢
 rw[ed]
 refine zT mix Tryz.func110 Tryz.ntmps110 Tryz.results110 rfl rfl rfl ?_;simp only[qab,Nat.reduceAdd]
 repeat'(first|refine zQ ?_|refine zF h3 ?_|(refine zI ?_;intro hlt)|(refine zC ?_ ?_<;>first|intro h|simp)|refine zE ?_|fail)
 all_goals first
  |(exfalso;omega)
  |(rw[if_pos (by omega)];done)
  |(rw[if_neg (by omega)];done)
  |trace_state
theorem qyi:Contract Tryz.prog 110 [.agg (encSite s),.agg (qag b),.agg (encCut c),.int .i64 i,.int .i64 3] (.ret (.int .i64 (qAp s i))):=by
 have h3:=qch s (by have:=hs.dreds;omega) c.dredger
 obtain⟨hk,ed⟩:=qcp hc.dr
 obtain⟨k,ek⟩:=Int.eq_ofNat_of_zero_le hc.dr
 have hkk:(qdb s c.dredger).toNat=k:=by omega
 rw[ek]at h3
 simp only[hkk]at hk ed
 have hsm:=hb.ok.small
 have hlv:=qbv hi
 have hrg:=qjP hb.ok hi
 have hcl:=hc.lvl
 have hz:=hs.zone
 rw[hlv]at hrg
 unfold qAp qd2
 refine zT mix Tryz.func110 Tryz.ntmps110 Tryz.results110 rfl rfl rfl ?_;simp only[qab,Nat.reduceAdd]
 repeat'(first|refine zQ ?_|refine zF h3 ?_|(refine zI ?_;intro hlt)|fail)
 all_goals try(exfalso;omega)
 refine qad s.zones.length (fun j=>⟨[(13,.int .i64 j),(5,.op 0 0 0),(6,.op 1 0 0),(3,.int .i64 i),(4,.int .i64 3),(7,.op 2 0 0),(11,.op 3 0 0),(12,.int .i64 (b.levels[i]-min b.levels[i] c.level))],[(0,⟨12,true,[encSite s]⟩),(1,⟨6,true,[qag b]⟩),(2,⟨8,true,[encCut c]⟩),(3,⟨8,false,[qa4 s.dreds[k]]⟩)],160,115⟩) (fun j=>∀m (hm:m<s.zones.length),m<j→qdy s.bed i s.zones[m]=false) ?_ (by omega) ?_
 ·exact qaa (nx:=160) (k:=0) (ns:=[]) (ks:=[13,5,6,3,4,7,11,12]) [(0,0),(32,1),(64,2),(384,3)] rfl (by simp) (by kernel_rfl)
 intro j hj hC
 by_cases hL:j<s.zones.length
 ·have h4:=qru b hb.ok i hi s.zones[j] (hz.2 j hL)
  rw[qAo hb.al]at h4
  repeat'(first|refine zQ ?_|refine zF h4 ?_|(refine zI ?_;intro hlt)|(refine zC ?_ ?_<;>first|intro h|simp)|refine zE ?_|fail)
  all_goals first
   |exact absurd hL (by omega)
   |(rw[if_pos (qqe hL (by assumption))];done)
   |(refine⟨hL,fun m hm hmj=>?_,qaa (nx:=160) (k:=0) (ns:=[]) (ks:=[13,5,6,3,4,7,11,12]) [(0,0),(1,1),(2,2),(3,3)] rfl (by simp) (by kernel_rfl)⟩
     rcases Nat.lt_succ_iff_lt_or_eq.1 hmj with h'|rfl
     ·exact hC m hm h'
     ·assumption)
   |trace_state
 ·rw[if_neg (by rw[qtv fun m hm=>hC m hm (by omega)];simp)]
  repeat'(first|(with_reducible rfl)|refine zQ ?_|(refine zI ?_;intro hlt)|(refine zC ?_ ?_<;>first|intro h|simp)|refine zE ?_|fail)
  all_goals first
   |exact absurd hL (by omega)
   |rfl
   |(exfalso;omega)
   |trace_state
theorem qyj:Contract Tryz.prog 110 [.agg (encSite s),.agg (qag b),.agg (encCut c),.int .i64 i,.int .i64 5] (.ret (.int .i64 (qyf s b c i))):=by
 have h3:=qch s (by have:=hs.dreds;omega) c.dredger
 obtain⟨hk,ed⟩:=qcp hc.dr
 obtain⟨k,ek⟩:=Int.eq_ofNat_of_zero_le hc.dr
 have hkk:(qdb s c.dredger).toNat=k:=by omega
 rw[ek]at h3
 simp only[hkk]at hk ed
 have hsm:=hb.ok.small
 have hlv:=qbv hi
 have hrg:=qjP hb.ok hi
 have hcl:=hc.lvl
 have hD:=hs.dredOf hc
 have h4:=qCP b hb.ok i hi
 have hg:=okG hs.gr
 have h5:=qq8 qFh (c51 s.ground hg (qar b i) (qdr hb.ok hi) (lv b.levels i) c.level)
 have hcl2:=qp2 s.ground (qar b i) (lv b.levels i) c.level hg
 have h6:=fun nm=>qtb s (by have:=hs.dreds;omega) c hc.dr (by have:=hD.l;omega) nm
 unfold qyf qvf qen
 rw[hlv]at hrg h5 hcl2 ⊢
 generalize qaI s.ground (qar b i) b.levels[i] c.level=co at*
 refine zT mix Tryz.func110 Tryz.ntmps110 Tryz.results110 rfl rfl rfl ?_;simp only[qab,Nat.reduceAdd]
 repeat'(first|((with_reducible apply(qaS 12 [[10],[]]));decide +kernel;rfl)|(with_reducible apply qaR)|(with_reducible apply qav)|(with_reducible apply qas)|(with_reducible apply qby)|(with_reducible apply qaA)|(with_reducible apply qcv)|(with_reducible apply qaw)|((with_reducible apply qa9);rfl;(intro id'))|((with_reducible apply qaT);rfl)|refine zS ?_|refine zA ?_|refine zF h3 ?_|refine zF h4 ?_|refine zF h5 ?_|(refine zI ?_;intro hlt)|(refine zC ?_ ?_<;>first|intro h|simp)|refine zE ?_|fail)
 all_goals try(exfalso;omega)
 all_goals try(rw[if_neg (fun h=>by omega)];done)
 have hfall:0<b.levels[i]-min b.levels[i] c.level:=by omega
 refine qad co.length (fun j=>⟨[(15,.int .i64 j),(14,.sl (co.map qbH)),(5,.op 0 0 0),(7,.op 2 0 0)],[(0,⟨12,true,[encSite s]⟩),(2,⟨8,true,[encCut c]⟩)],160,115⟩) (fun j=>∀m (hm:m<co.length),m<j→0≤qg5 (dredOf s c.dredger) co[m].soil) ?_ (by omega) ?_
 ·exact qaa (nx:=160) (k:=0) (ns:=[]) (ks:=[15,14,5,7]) [(0,0),(64,2)] rfl (by simp) (by kernel_rfl)
 intro j hj hC
 by_cases hL:j<co.length
 ·have h7:=h6 co[j].soil
  generalize qcO (dredOf s c.dredger) co[j].soil=ou at h7
  repeat'(first|((with_reducible apply(qaS 12 [[10],[]]));decide +kernel;rfl)|(with_reducible apply qaR)|(with_reducible apply qav)|(with_reducible apply qas)|(with_reducible apply qby)|(with_reducible apply qaA)|(with_reducible apply qcv)|(with_reducible apply qaw)|((with_reducible apply qa9);rfl;(intro id'))|((with_reducible apply qaT);rfl)|refine zS ?_|refine zA ?_|refine zF h7 ?_|(refine zI ?_;intro hlt)|(refine zC ?_ ?_<;>first|intro h|simp)|refine zE ?_|fail)
  all_goals try simp only[decide_eq_true_eq,decide_eq_false_iff_not]at*
  all_goals first
   |exact absurd hL (by omega)
   |(rw[if_pos ⟨hfall,by unfold qjm;rw[List.any_eq_true.2 ⟨_,List.getElem_mem hL,decide_eq_true (by omega)⟩];rfl⟩];done)
   |(refine⟨hL,fun m hm hmj=>?_,qaa (nx:=160) (k:=0) (ns:=[]) (ks:=[15,14,5,7]) [(0,0),(2,2)] rfl (by simp) (by kernel_rfl)⟩
     rcases Nat.lt_succ_iff_lt_or_eq.1 hmj with h'|rfl
     ·exact hC m hm h'
     ·omega)
   |trace_state
 ·have hno:qjm (dredOf s c.dredger) co=true:=by
   unfold qjm
   rw[List.any_eq_false.2 fun x hx=>?_]
   ·rfl
   ·obtain⟨m,hm,rfl⟩:=List.mem_iff_getElem.1 hx
    have:=hC m hm (by omega)
    simp;omega
  rw[if_neg (fun h=>by rw[hno]at h;cases h.2)]
  repeat'(first|((with_reducible apply(qaS 12 [[10],[]]));decide +kernel;rfl)|(with_reducible rfl)|refine zS ?_|refine zA ?_|(refine zI ?_;intro hlt)|(refine zC ?_ ?_<;>first|intro h|simp)|refine zE ?_|fail)
  all_goals first
   |exact absurd hL (by omega)
   |rfl
   |(exfalso;omega)
   |trace_state
end
end Go.Pv.Soil

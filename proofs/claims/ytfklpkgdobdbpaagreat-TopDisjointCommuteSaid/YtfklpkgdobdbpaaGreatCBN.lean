import Derived.Laws.Pointers
import Derived.Tactics
import Derived.Tactics2
import Derived.Test.YtfklpkgdobdbpaaGreatCBK
import Derived.Test.YtfklpkgdobdbpaaGreatCBL
/- Part of the proofs over YtfklpkgdobdbpaaGreat: N33, N34. -/
set_option linter.unusedVariables false
set_option linter.unusedSimpArgs false
set_option linter.unnecessarySimpa false
open Go Go.Proofs Go.Pv
set_option maxHeartbeats 8000000
set_option maxRecDepth 100000
set_option linter.unusedSimpArgs false
set_option linter.unusedVariables false
namespace Go.Pv.Soil
theorem qBu{l:List Nat}{v:Int}{i:Nat}(hi:i<l.length)(h:(l[i]:Int)=v):true=inN l v:=(List.any_eq_true.2 ⟨_,List.getElem_mem hi,decide_eq_true h.symm⟩).symm
theorem qDo{l:List Nat}{v:Int}(h:∀j (hj:j<l.length),¬(l[j]:Int)=v):false=inN l v:=(List.any_eq_false.2 fun x hx=>by
 obtain⟨j,hj,rfl⟩:=List.mem_iff_getElem.1 hx
 have:=h j hj
 rw[decide_eq_false (fun h'=>this h'.symm)];simp).symm
theorem qwq(l:List Nat)(hl:l.length<1000000000000)(v:Int):Contract Tryz.prog 113 [.sl (l.map qcX),.int .i64 v] (.ret (.bool (inN l v))):=by
 refine zT mix Tryz.func113 Tryz.ntmps113 Tryz.results113 rfl rfl rfl ?_;simp only[qac,Nat.reduceAdd]
 repeat'(first|refine zQ ?_|fail)
 refine qaf l.length (fun i=>⟨[(5,.int .i64 i),(0,.sl (l.map qcX)),(1,.int .i64 v)],[],0,18⟩) (fun i=>∀j (hj:j<l.length),j<i→¬(l[j]:Int)=v) (qaa (nx:=0) (k:=0) (ns:=[]) (ks:=[5,0,1]) [] rfl (by simp) (by kernel_rfl)) (by omega) ?_
 intro i hi hC
 by_cases hL:i<l.length
 ·repeat'(first|refine zQ ?_|(refine zI ?_;intro hlt)|(refine zC ?_ ?_<;>first|intro h|simp)|refine zE ?_|fail)
  all_goals first
   |exact absurd hL (by omega)
   |exact qBu hL (by assumption)
   |(refine⟨hL,fun j hj hji=>?_,qaa (nx:=0) (k:=0) (ns:=[]) (ks:=[5,0,1]) [] rfl (by simp) (by kernel_rfl)⟩
     rcases Nat.lt_succ_iff_lt_or_eq.1 hji with h'|rfl
     ·exact hC j hj h'
     ·assumption)
   |trace_state
 ·repeat'(first|refine zQ ?_|(refine zI ?_;intro hlt)|(refine zC ?_ ?_<;>first|intro h|simp)|refine zE ?_|fail)
  all_goals first
   |exact absurd hL (by omega)
   |exact qDo fun j hj=>hC j hj (by omega)
   |trace_state
def qw9(b a:Grid)(i:Nat):Bool:=decide (lv a.levels i≠lv b.levels i)
theorem qr0(p:Nat→Bool)(i:Nat):(List.range (i+1)).filter p=(List.range i).filter p++if p i=true then [i]else []:=by
 rw[List.range_succ,List.filter_append]
 by_cases h:p i=true
 ·rw[if_pos h];simp[h]
 ·rw[if_neg h];simp[h]
theorem qwr{p:Nat→Bool}{i:Nat}(h:p i=true):(List.range i).filter p++[i]=(List.range (i+1)).filter p:=by rw[qr0,if_pos h]
theorem qDp{p:Nat→Bool}{i:Nat}(h:p i=false):(List.range i).filter p=(List.range (i+1)).filter p:=by rw[qr0,if_neg (by rw[h];simp)];simp
theorem qBv(p:Nat→Bool)(i:Nat):((List.range i).filter p).length≤i:=Nat.le_trans (List.length_filter_le _ _) (by simp)
theorem qws(s:Site)(hs:OkGrid s.bed)(b:Grid)(hb:OkBed s b)(c:Cut)(hc:OkCut s c):Contract Tryz.prog 111 [.agg (encSite s),.agg (encGrid b),.agg (encCut c)] (.ret (.sl ((qcd s b c).map qcX))):=by
 obtain⟨ha,hlt,hpos,hle⟩:=qby hs hc
 have hlen:=hb.len hs
 have hsm:=hb.ok.small
 have h1:=qf5 s hs b hb c hc
 have hr:(List.range b.levels.length).filter (qw9 b (qeL s b c))=qcd s b c:=qvL ha fun i hi=>by rw[hlen];exact hlt i hi
 have hll:(qeL s b c).levels.length=b.levels.length:=qaZ _ _ _
 rw[←hr]
 generalize qeL s b c=a at*
 refine zT mix Tryz.func111 Tryz.ntmps111 Tryz.results111 rfl rfl rfl ?_;simp only[qac,Nat.reduceAdd]
 repeat'(first|refine zQ ?_|refine zF h1 ?_|fail)
 refine qaf b.levels.length (fun i=>⟨[(8,.os 1 0 ((List.range i).filter (qw9 b a)).length),(9,.int .i64 i),(7,.op 3 0 0),(4,.op 2 0 0)],
  [(1,⟨1,true,((List.range i).filter (qw9 b a)).map qcX⟩),(2,⟨6,true,[encGrid b]⟩),(3,⟨6,false,[encGrid a]⟩)],320,37⟩) (fun i=>True) ?_ trivial ?_
 ·exact qaa (nx:=320) (k:=1) (ns:=[(8,1)]) (ks:=[9,7,4]) [(32,2),(256,3)] rfl (by simp;rfl) (by kernel_rfl)
 intro i hi _
 have hfl:=qBv (qw9 b a) i
 by_cases hL:i<b.levels.length
 ·have hLa:i<a.levels.length:=by omega
  have hP:qw9 b a i=decide (¬a.levels[i]=b.levels[i]):=by unfold qw9;rw[qbu hL,qbu hLa]
  repeat'(first|refine zQ ?_|(refine zI ?_;intro hlt)|(refine zC ?_ ?_<;>first|intro h|simp)|fail)
  all_goals try exact absurd hL (by omega)
  ·refine qaE (f:=qcX) (a:=i) (l:=(List.range i).filter (qw9 b a)) qp5 rfl rfl rfl rfl rfl rfl (by kernel_rfl) (by kernel_rfl) (by omega) rfl ?_
   repeat'(first|refine zQ ?_|fail)
   refine⟨hL,trivial,?_⟩
   have hp:qw9 b a i=true:=hP.trans (decide_eq_true (by assumption))
   have el:((List.range i).filter (qw9 b a)).length+1=((List.range (i+1)).filter (qw9 b a)).length:=by rw[←qwr hp];simp
   rw[qwr hp,el]
   exact qaa (nx:=320) (k:=1) (ns:=[]) (ks:=[8,9,7,4]) [(1,1),(2,2),(3,3)] rfl (by simp) (by kernel_rfl)
  ·refine⟨hL,trivial,?_⟩
   rw[qDp (hP.trans (decide_eq_false (not_not_intro (by assumption))))]
   exact qaa (nx:=320) (k:=1) (ns:=[]) (ks:=[8,9,7,4]) [(1,1),(2,2),(3,3)] rfl (by simp) (by kernel_rfl)
 ·obtain rfl:i=b.levels.length:=by omega
  repeat'(first|refine zQ ?_|(refine zI ?_;intro hlt)|(refine zC ?_ ?_<;>first|intro h|simp)|fail)
  all_goals first
   |exact absurd (show b.levels.length<b.levels.length by omega) hL
   |exact qkw rfl (qel (f:=qcX) (m:=63) rfl rfl) rfl
   |trace_state
theorem qBw(s:Site)(hs:OkSite s)(c:Cut)(hc:OkCut s c)(i:Nat)(hi:i<s.bed.levels.length)(n:Nat)(hn2:n≤3000)(ht:c.start+n≤1000001):Contract Tryz.prog 112 [.agg (encSite s),.agg (encCut c),.int .i64 i,.int .i64 n] (.ret (.int .i64 (qcG s c n i))):=by
 have hst:=hc.st
 have hlv:=hc.lvl
 have hdr:=hs.dreds
 have h1:=qBX s.bed hs.bed i hi
 have hpt: -1000000≤(qap s.bed i).x∧(qap s.bed i).x≤1000000:=by
  have:=of_decide_eq_true (qda hs.bed hi)
  omega
 have h2:=qDl s.gauges (qjJ hs.ga) (qap s.bed i).x c.start (c.start+n-1) n hpt (by omega) rfl (by omega)
 have hsb:=qqm (qjJ hs.ga) (x:=(qap s.bed i).x) (f:=c.start) n
 have h3:=qb4 s (by omega) c.dredger
 obtain⟨hk,ed⟩:=qcc hc.dr
 obtain⟨k,ek⟩:=Int.eq_ofNat_of_zero_le hc.dr
 have hkk:(qcT s c.dredger).toNat=k:=by omega
 rw[ek]at h3
 simp only[hkk]at hk ed
 by_cases hok:qe2 s.gauges (qap s.bed i).x c.start n
 ·rw[if_pos hok]at h2
  have e16:¬(qer s.gauges (qap s.bed i).x c.start n).2-c.level≤(dredOf s c.dredger).depth→qcG s c n i=16:=fun h=>qrX hok h
  have e0:(qer s.gauges (qap s.bed i).x c.start n).2-c.level≤(dredOf s c.dredger).depth→qcG s c n i=0:=fun h=>qwj hok h
  rw[ed]at e16 e0
  generalize qer s.gauges (qap s.bed i).x c.start n=v at*
  refine zT mix Tryz.func112 Tryz.ntmps112 Tryz.results112 rfl rfl rfl ?_;simp only[qac,Nat.reduceAdd]
  repeat'(first|((with_reducible apply qmJ);rfl;rfl;rfl)|((with_reducible apply(qba 13 [[11],[]]));decide +kernel;rfl)|(with_reducible apply qa1)|(with_reducible apply qax)|(with_reducible apply qav)|(with_reducible apply qb1)|(with_reducible apply qaF)|(with_reducible apply qc4)|(with_reducible apply qay)|((with_reducible apply qbn);rfl;(intro id'))|((with_reducible apply qa2);rfl)|refine zS ?_|refine zA ?_|refine zF h1 ?_|refine zF h2 ?_|refine zF h3 ?_|(refine zI ?_;intro hlt)|(refine zC ?_ ?_<;>first|intro h|simp)|refine zE ?_|fail)
  all_goals first
   |exact(e16 (by omega)).symm
   |exact(e0 (by omega)).symm
   |trace_state
 ·rw[if_neg hok]at h2
  rw[qrY hok]
  refine zT mix Tryz.func112 Tryz.ntmps112 Tryz.results112 rfl rfl rfl ?_;simp only[qac,Nat.reduceAdd]
  repeat'(first|((with_reducible apply qmJ);rfl;rfl;rfl)|((with_reducible apply(qba 13 [[11],[]]));decide +kernel;rfl)|(with_reducible apply qa1)|(with_reducible apply qax)|(with_reducible apply qav)|(with_reducible apply qb1)|(with_reducible apply qaF)|(with_reducible apply qc4)|(with_reducible apply qay)|((with_reducible apply qbn);rfl;(intro id'))|((with_reducible apply qa2);rfl)|(with_reducible rfl)|refine zS ?_|refine zA ?_|refine zF h1 ?_|refine zF h2 ?_|refine zE ?_|fail)
  all_goals first
   |rfl
   |trace_state
theorem qyv{s:Site}{b:Grid}(h:qbX s.bed b=true)(i:Nat)(z:qfD):qfy b i z=qfy s.bed i z:=by
 obtain⟨h1,h2,h3,h4,h5⟩:=qzH h
 simp only[qfy,loG,hiG,h1,h2,h3,h4]
def qtt(b:Grid)(c:Cut)(i:Nat):Int:=lv b.levels i-min (lv b.levels i) c.level
def qtu(b:Grid)(i:Nat):Int:=if lv b.levels i=30000 then 12 else 0
def qyw(s:Site)(i:Nat):Int:=if qf7 s i=true then 13 else 0
def qwt(s:Site)(b:Grid)(c:Cut)(i:Nat):Int:=if(dredOf s c.dredger).bite<qtt b c i then 19 else 0
def qwu(s:Site)(b:Grid)(c:Cut)(i:Nat):Int:=if 0<qtt b c i∧qd5 s b c i=false then 6 else 0
theorem qwv{z:List qfD}{p:qfD→Bool}{j:Nat}(hj:j<z.length)(h:p z[j]=true):z.any p=true:=List.any_eq_true.2 ⟨_,List.getElem_mem hj,h⟩
theorem qyx{z:List qfD}{p:qfD→Bool}(h:∀j (hj:j<z.length),p z[j]=false):z.any p=false:=List.any_eq_false.2 fun x hx=>by
 obtain⟨j,hj,rfl⟩:=List.mem_iff_getElem.1 hx
 rw[h j hj];simp
section
variable (s:Site)(hs:OkSite s)(b:Grid)(hb:OkBed s b)(c:Cut)(hc:OkCut s c)(i:Nat)(hi:i<b.levels.length)
include hs hb hc hi
theorem qww:Contract Tryz.prog 110 [.agg (encSite s),.agg (encGrid b),.agg (encCut c),.int .i64 i,.int .i64 2] (.ret (.int .i64 (qtu b i))):=by
 have h3:=qb4 s (by have:=hs.dreds;omega) c.dredger
 obtain⟨hk,ed⟩:=qcc hc.dr
 obtain⟨k,ek⟩:=Int.eq_ofNat_of_zero_le hc.dr
 have hkk:(qcT s c.dredger).toNat=k:=by omega
 rw[ek]at h3
 simp only[hkk]at hk ed
 have hsm:=hb.ok.small
 have hlv:=qbu hi
 have hrg:=qmb hb.ok hi
 have hcl:=hc.lvl
 have h4:=c41 b (by omega) i hi
 unfold qtu
 rw[hlv]at hrg ⊢
 refine zT mix Tryz.func110 Tryz.ntmps110 Tryz.results110 rfl rfl rfl ?_;simp only[qac,Nat.reduceAdd]
 repeat'(first|refine zQ ?_|refine zF h3 ?_|refine zF h4 ?_|(refine zI ?_;intro hlt)|(refine zC ?_ ?_<;>first|intro h|simp)|refine zE ?_|fail)
 all_goals first
  |(exfalso;omega)
  |(rw[if_pos (by omega)];done)
  |(rw[if_neg (by omega)];done)
  |trace_state
theorem qwx:Contract Tryz.prog 110 [.agg (encSite s),.agg (encGrid b),.agg (encCut c),.int .i64 i,.int .i64 4] (.ret (.int .i64 (qwt s b c i))):=by
 have h3:=qb4 s (by have:=hs.dreds;omega) c.dredger
 obtain⟨hk,ed⟩:=qcc hc.dr
 obtain⟨k,ek⟩:=Int.eq_ofNat_of_zero_le hc.dr
 have hkk:(qcT s c.dredger).toNat=k:=by omega
 rw[ek]at h3
 simp only[hkk]at hk ed
 have hsm:=hb.ok.small
 have hlv:=qbu hi
 have hrg:=qmb hb.ok hi
 have hcl:=hc.lvl
 unfold qwt qtt
 rw[hlv]at hrg ⊢
 rw[ed]
 refine zT mix Tryz.func110 Tryz.ntmps110 Tryz.results110 rfl rfl rfl ?_;simp only[qac,Nat.reduceAdd]
 repeat'(first|refine zQ ?_|refine zF h3 ?_|(refine zI ?_;intro hlt)|(refine zC ?_ ?_<;>first|intro h|simp)|refine zE ?_|fail)
 all_goals first
  |(exfalso;omega)
  |(rw[if_pos (by omega)];done)
  |(rw[if_neg (by omega)];done)
  |trace_state
theorem qwy:Contract Tryz.prog 110 [.agg (encSite s),.agg (encGrid b),.agg (encCut c),.int .i64 i,.int .i64 3] (.ret (.int .i64 (qyw s i))):=by
 have h3:=qb4 s (by have:=hs.dreds;omega) c.dredger
 obtain⟨hk,ed⟩:=qcc hc.dr
 obtain⟨k,ek⟩:=Int.eq_ofNat_of_zero_le hc.dr
 have hkk:(qcT s c.dredger).toNat=k:=by omega
 rw[ek]at h3
 simp only[hkk]at hk ed
 have hsm:=hb.ok.small
 have hlv:=qbu hi
 have hrg:=qmb hb.ok hi
 have hcl:=hc.lvl
 have hz:=hs.zone
 rw[hlv]at hrg
 unfold qyw qf7
 refine zT mix Tryz.func110 Tryz.ntmps110 Tryz.results110 rfl rfl rfl ?_;simp only[qac,Nat.reduceAdd]
 repeat'(first|refine zQ ?_|refine zF h3 ?_|(refine zI ?_;intro hlt)|fail)
 all_goals try(exfalso;omega)
 refine qaf s.zones.length (fun j=>⟨[(13,.int .i64 j),(5,.op 0 0 0),(6,.op 1 0 0),(3,.int .i64 i),(4,.int .i64 3),(7,.op 2 0 0),(11,.op 3 0 0),(12,.int .i64 (b.levels[i]-min b.levels[i] c.level))],[(0,⟨12,true,[encSite s]⟩),(1,⟨6,true,[encGrid b]⟩),(2,⟨8,true,[encCut c]⟩),(3,⟨8,false,[encDred s.dreds[k]]⟩)],160,115⟩) (fun j=>∀m (hm:m<s.zones.length),m<j→qfy s.bed i s.zones[m]=false) ?_ (by omega) ?_
 ·exact qaa (nx:=160) (k:=0) (ns:=[]) (ks:=[13,5,6,3,4,7,11,12]) [(0,0),(32,1),(64,2),(384,3)] rfl (by simp) (by kernel_rfl)
 intro j hj hC
 by_cases hL:j<s.zones.length
 ·have h4:=qBa b hb.ok i hi s.zones[j] (hz.2 j hL)
  rw[qyv hb.al]at h4
  repeat'(first|refine zQ ?_|refine zF h4 ?_|(refine zI ?_;intro hlt)|(refine zC ?_ ?_<;>first|intro h|simp)|refine zE ?_|fail)
  all_goals first
   |exact absurd hL (by omega)
   |(rw[if_pos (qwv hL (by assumption))];done)
   |(refine⟨hL,fun m hm hmj=>?_,qaa (nx:=160) (k:=0) (ns:=[]) (ks:=[13,5,6,3,4,7,11,12]) [(0,0),(1,1),(2,2),(3,3)] rfl (by simp) (by kernel_rfl)⟩
     rcases Nat.lt_succ_iff_lt_or_eq.1 hmj with h'|rfl
     ·exact hC m hm h'
     ·assumption)
   |trace_state
 ·rw[if_neg (by rw[qyx fun m hm=>hC m hm (by omega)];simp)]
  repeat'(first|(with_reducible rfl)|refine zQ ?_|(refine zI ?_;intro hlt)|(refine zC ?_ ?_<;>first|intro h|simp)|refine zE ?_|fail)
  all_goals first
   |exact absurd hL (by omega)
   |rfl
   |(exfalso;omega)
   |trace_state
theorem qwz:Contract Tryz.prog 110 [.agg (encSite s),.agg (encGrid b),.agg (encCut c),.int .i64 i,.int .i64 5] (.ret (.int .i64 (qwu s b c i))):=by
 have h3:=qb4 s (by have:=hs.dreds;omega) c.dredger
 obtain⟨hk,ed⟩:=qcc hc.dr
 obtain⟨k,ek⟩:=Int.eq_ofNat_of_zero_le hc.dr
 have hkk:(qcT s c.dredger).toNat=k:=by omega
 rw[ek]at h3
 simp only[hkk]at hk ed
 have hsm:=hb.ok.small
 have hlv:=qbu hi
 have hrg:=qmb hb.ok hi
 have hcl:=hc.lvl
 have hD:=hs.dredOf hc
 have h4:=qBX b hb.ok i hi
 have hg:=okG hs.gr
 have h5:=qu3 qDc (c51 s.ground hg (qap b i) (qda hb.ok hi) (lv b.levels i) c.level)
 have hcl2:=qoX s.ground (qap b i) (lv b.levels i) c.level hg
 have h6:=fun nm=>qrJ s (by have:=hs.dreds;omega) c hc.dr (by have:=hD.l;omega) nm
 unfold qwu qtt qd5
 rw[hlv]at hrg h5 hcl2 ⊢
 generalize qaD s.ground (qap b i) b.levels[i] c.level=co at*
 refine zT mix Tryz.func110 Tryz.ntmps110 Tryz.results110 rfl rfl rfl ?_;simp only[qac,Nat.reduceAdd]
 repeat'(first|((with_reducible apply(qba 12 [[10],[]]));decide +kernel;rfl)|(with_reducible apply qa1)|(with_reducible apply qax)|(with_reducible apply qav)|(with_reducible apply qb1)|(with_reducible apply qaF)|(with_reducible apply qc4)|(with_reducible apply qay)|((with_reducible apply qbn);rfl;(intro id'))|((with_reducible apply qa2);rfl)|refine zS ?_|refine zA ?_|refine zF h3 ?_|refine zF h4 ?_|refine zF h5 ?_|(refine zI ?_;intro hlt)|(refine zC ?_ ?_<;>first|intro h|simp)|refine zE ?_|fail)
 all_goals try(exfalso;omega)
 all_goals try(rw[if_neg (fun h=>by omega)];done)
 have hfall:0<b.levels[i]-min b.levels[i] c.level:=by omega
 refine qaf co.length (fun j=>⟨[(15,.int .i64 j),(14,.sl (co.map qbt)),(5,.op 0 0 0),(7,.op 2 0 0)],[(0,⟨12,true,[encSite s]⟩),(2,⟨8,true,[encCut c]⟩)],160,115⟩) (fun j=>∀m (hm:m<co.length),m<j→0≤qgD (dredOf s c.dredger) co[m].soil) ?_ (by omega) ?_
 ·exact qaa (nx:=160) (k:=0) (ns:=[]) (ks:=[15,14,5,7]) [(0,0),(64,2)] rfl (by simp) (by kernel_rfl)
 intro j hj hC
 by_cases hL:j<co.length
 ·have h7:=h6 co[j].soil
  generalize qcy (dredOf s c.dredger) co[j].soil=ou at h7
  repeat'(first|((with_reducible apply(qba 12 [[10],[]]));decide +kernel;rfl)|(with_reducible apply qa1)|(with_reducible apply qax)|(with_reducible apply qav)|(with_reducible apply qb1)|(with_reducible apply qaF)|(with_reducible apply qc4)|(with_reducible apply qay)|((with_reducible apply qbn);rfl;(intro id'))|((with_reducible apply qa2);rfl)|refine zS ?_|refine zA ?_|refine zF h7 ?_|(refine zI ?_;intro hlt)|(refine zC ?_ ?_<;>first|intro h|simp)|refine zE ?_|fail)
  all_goals try simp only[decide_eq_true_eq,decide_eq_false_iff_not]at*
  all_goals first
   |exact absurd hL (by omega)
   |(rw[if_pos ⟨hfall,by unfold qiM;rw[List.any_eq_true.2 ⟨_,List.getElem_mem hL,decide_eq_true (by omega)⟩];rfl⟩];done)
   |(refine⟨hL,fun m hm hmj=>?_,qaa (nx:=160) (k:=0) (ns:=[]) (ks:=[15,14,5,7]) [(0,0),(2,2)] rfl (by simp) (by kernel_rfl)⟩
     rcases Nat.lt_succ_iff_lt_or_eq.1 hmj with h'|rfl
     ·exact hC m hm h'
     ·omega)
   |trace_state
 ·have hno:qiM (dredOf s c.dredger) co=true:=by
   unfold qiM
   rw[List.any_eq_false.2 fun x hx=>?_]
   ·rfl
   ·obtain⟨m,hm,rfl⟩:=List.mem_iff_getElem.1 hx
    have:=hC m hm (by omega)
    simp;omega
  rw[if_neg (fun h=>by rw[hno]at h;cases h.2)]
  repeat'(first|((with_reducible apply(qba 12 [[10],[]]));decide +kernel;rfl)|(with_reducible rfl)|refine zS ?_|refine zA ?_|(refine zI ?_;intro hlt)|(refine zC ?_ ?_<;>first|intro h|simp)|refine zE ?_|fail)
  all_goals first
   |exact absurd hL (by omega)
   |rfl
   |(exfalso;omega)
   |trace_state
end
end Go.Pv.Soil

import Derived.Test.YtfklpkgdobdbpaaGreatCBO
import Derived.Test.YtfklpkgdobdbpaaGreatCBP
/- Part of the proofs over YtfklpkgdobdbpaaGreat: N33, N39. -/
set_option linter.unusedVariables false
set_option linter.unusedSimpArgs false
set_option linter.unnecessarySimpa false
open Go Go.Proofs Go.Pv
set_option maxHeartbeats 8000000
set_option maxRecDepth 100000
set_option linter.unusedSimpArgs false
set_option linter.unusedVariables false
namespace Go.Pv.Soil
theorem qDv{l:List Nat}{v:Int}{i:Nat}(hi:i<l.length)(h:(l[i]:Int)=v):true=inN l v:=(List.any_eq_true.2 ⟨_,List.getElem_mem hi,decide_eq_true h.symm⟩).symm
theorem qFt{l:List Nat}{v:Int}(h:∀j (hj:j<l.length),¬(l[j]:Int)=v):false=inN l v:=(List.any_eq_false.2 fun x hx=>by
 obtain⟨j,hj,rfl⟩:=List.mem_iff_getElem.1 hx
 have:=h j hj
 rw[decide_eq_false (fun h'=>this h'.symm)];simp).symm
theorem qrD(l:List Nat)(hl:l.length<1000000000000)(v:Int):Contract Tryz.prog 113 [.sl (l.map qcx),.int .i64 v] (.ret (.bool (inN l v))):=by
 refine zT mix Tryz.func113 Tryz.ntmps113 Tryz.results113 rfl rfl rfl ?_;simp only[qab,Nat.reduceAdd]
 repeat'(first|refine zQ ?_|fail)
 refine qad l.length (fun i=>⟨[(5,.int .i64 i),(0,.sl (l.map qcx)),(1,.int .i64 v)],[],0,18⟩) (fun i=>∀j (hj:j<l.length),j<i→¬(l[j]:Int)=v) (qaa (nx:=0) (k:=0) (ns:=[]) (ks:=[5,0,1]) [] rfl (by simp) (by kernel_rfl)) (by omega) ?_
 intro i hi hC
 by_cases hL:i<l.length
 ·repeat'(first|refine zQ ?_|(refine zI ?_;intro hlt)|(refine zC ?_ ?_<;>first|intro h|simp)|refine zE ?_|fail)
  all_goals first
   |exact absurd hL (by omega)
   |exact qDv hL (by assumption)
   |(refine⟨hL,fun j hj hji=>?_,qaa (nx:=0) (k:=0) (ns:=[]) (ks:=[5,0,1]) [] rfl (by simp) (by kernel_rfl)⟩
     rcases Nat.lt_succ_iff_lt_or_eq.1 hji with h'|rfl
     ·exact hC j hj h'
     ·assumption)
   |trace_state
 ·repeat'(first|refine zQ ?_|(refine zI ?_;intro hlt)|(refine zC ?_ ?_<;>first|intro h|simp)|refine zE ?_|fail)
  all_goals first
   |exact absurd hL (by omega)
   |exact qFt fun j hj=>hC j hj (by omega)
   |trace_state
def qy5(b a:Grid)(i:Nat):Bool:=decide (lv a.levels i≠lv b.levels i)
theorem qtu(p:Nat→Bool)(i:Nat):(List.range (i+1)).filter p=(List.range i).filter p++if p i=true then [i]else []:=by
 rw[List.range_succ,List.filter_append]
 by_cases h:p i=true
 ·rw[if_pos h];simp[h]
 ·rw[if_neg h];simp[h]
theorem qjo{p:Nat→Bool}{i:Nat}(h:p i=true):(List.range i).filter p++[i]=(List.range (i+1)).filter p:=by rw[qtu,if_pos h]
theorem qyc{p:Nat→Bool}{i:Nat}(h:p i=false):(List.range i).filter p=(List.range (i+1)).filter p:=by rw[qtu,if_neg (by rw[h];simp)];simp
theorem qrE(p:Nat→Bool)(i:Nat):((List.range i).filter p).length≤i:=Nat.le_trans (List.length_filter_le _ _) (by simp)
theorem qyd(s:Site)(hs:OkGrid s.bed)(b:Grid)(hb:OkBed s b)(c:Cut)(hc:OkCut s c):Contract Tryz.prog 111 [.agg (encSite s),.agg (qag b),.agg (encCut c)] (.ret (.sl ((qbB s b c).map qcx))):=by
 obtain⟨ha,hlt,hpos,hle⟩:=qbm hs hc
 have hlen:=hb.len hs
 have hsm:=hb.ok.small
 have h1:=qgx s hs b hb c hc
 have hr:(List.range b.levels.length).filter (qy5 b (qcu s b c))=qbB s b c:=qxF ha fun i hi=>by rw[hlen];exact hlt i hi
 have hll:(qcu s b c).levels.length=b.levels.length:=qaM _ _ _
 rw[←hr]
 generalize qcu s b c=a at*
 refine zT mix Tryz.func111 Tryz.ntmps111 Tryz.results111 rfl rfl rfl ?_;simp only[qab,Nat.reduceAdd]
 repeat'(first|refine zQ ?_|refine zF h1 ?_|fail)
 refine qad b.levels.length (fun i=>⟨[(8,.os 1 0 ((List.range i).filter (qy5 b a)).length),(9,.int .i64 i),(7,.op 3 0 0),(4,.op 2 0 0)],
  [(1,⟨1,true,((List.range i).filter (qy5 b a)).map qcx⟩),(2,⟨6,true,[qag b]⟩),(3,⟨6,false,[qag a]⟩)],320,37⟩) (fun i=>True) ?_ trivial ?_
 ·exact qaa (nx:=320) (k:=1) (ns:=[(8,1)]) (ks:=[9,7,4]) [(32,2),(256,3)] rfl (by simp;rfl) (by kernel_rfl)
 intro i hi _
 have hfl:=qrE (qy5 b a) i
 by_cases hL:i<b.levels.length
 ·have hLa:i<a.levels.length:=by omega
  have hP:qy5 b a i=decide (¬a.levels[i]=b.levels[i]):=by unfold qy5;rw[qbv hL,qbv hLa]
  repeat'(first|refine zQ ?_|(refine zI ?_;intro hlt)|(refine zC ?_ ?_<;>first|intro h|simp)|fail)
  all_goals try exact absurd hL (by omega)
  ·refine qaH (f:=qcx) (a:=i) (l:=(List.range i).filter (qy5 b a)) qlD rfl rfl rfl rfl rfl rfl (by kernel_rfl) (by kernel_rfl) (by omega) rfl ?_
   repeat'(first|refine zQ ?_|fail)
   refine⟨hL,trivial,?_⟩
   have hp:qy5 b a i=true:=hP.trans (decide_eq_true (by assumption))
   have el:((List.range i).filter (qy5 b a)).length+1=((List.range (i+1)).filter (qy5 b a)).length:=by rw[←qjo hp];simp
   rw[qjo hp,el]
   exact qaa (nx:=320) (k:=1) (ns:=[]) (ks:=[8,9,7,4]) [(1,1),(2,2),(3,3)] rfl (by simp) (by kernel_rfl)
  ·refine⟨hL,trivial,?_⟩
   rw[qyc (hP.trans (decide_eq_false (not_not_intro (by assumption))))]
   exact qaa (nx:=320) (k:=1) (ns:=[]) (ks:=[8,9,7,4]) [(1,1),(2,2),(3,3)] rfl (by simp) (by kernel_rfl)
 ·obtain rfl:i=b.levels.length:=by omega
  repeat'(first|refine zQ ?_|(refine zI ?_;intro hlt)|(refine zC ?_ ?_<;>first|intro h|simp)|fail)
  all_goals first
   |exact absurd (show b.levels.length<b.levels.length by omega) hL
   |exact qif rfl (qdY (f:=qcx) (m:=63) rfl rfl) rfl
   |trace_state
theorem qDw(s:Site)(hs:OkSite s)(c:Cut)(hc:OkCut s c)(i:Nat)(hi:i<s.bed.levels.length)(n:Nat)(hn2:n≤3000)(ht:c.start+n≤1000001):Contract Tryz.prog 112 [.agg (encSite s),.agg (encCut c),.int .i64 i,.int .i64 n] (.ret (.int .i64 (qca s c n i))):=by
 have hst:=hc.st
 have hlv:=hc.lvl
 have hdr:=hs.dreds
 have h1:=qCP s.bed hs.bed i hi
 have hpt: -1000000≤(qar s.bed i).x∧(qar s.bed i).x≤1000000:=by
  have:=of_decide_eq_true (qdr hs.bed hi)
  omega
 have h2:=qFq s.gauges (qkp hs.ga) (qar s.bed i).x c.start (c.start+n-1) n hpt (by omega) rfl (by omega)
 have hsb:=qrB (qkp hs.ga) (x:=(qar s.bed i).x) (f:=c.start) n
 have h3:=qch s (by omega) c.dredger
 obtain⟨hk,ed⟩:=qcp hc.dr
 obtain⟨k,ek⟩:=Int.eq_ofNat_of_zero_le hc.dr
 have hkk:(qdb s c.dredger).toNat=k:=by omega
 rw[ek]at h3
 simp only[hkk]at hk ed
 by_cases hok:qfu s.gauges (qar s.bed i).x c.start n
 ·rw[if_pos hok]at h2
  have e16:¬(qeJ s.gauges (qar s.bed i).x c.start n).2-c.level≤(dredOf s c.dredger).depth→qca s c n i=16:=fun h=>qtq hok h
  have e0:(qeJ s.gauges (qar s.bed i).x c.start n).2-c.level≤(dredOf s c.dredger).depth→qca s c n i=0:=fun h=>qx7 hok h
  rw[ed]at e16 e0
  generalize qeJ s.gauges (qar s.bed i).x c.start n=v at*
  refine zT mix Tryz.func112 Tryz.ntmps112 Tryz.results112 rfl rfl rfl ?_;simp only[qab,Nat.reduceAdd]
  repeat'(first|((with_reducible apply qkc);rfl;rfl;rfl)|((with_reducible apply(qaS 13 [[11],[]]));decide +kernel;rfl)|(with_reducible apply qaR)|(with_reducible apply qav)|(with_reducible apply qas)|(with_reducible apply qby)|(with_reducible apply qaA)|(with_reducible apply qcv)|(with_reducible apply qaw)|((with_reducible apply qa9);rfl;(intro id'))|((with_reducible apply qaT);rfl)|refine zS ?_|refine zA ?_|refine zF h1 ?_|refine zF h2 ?_|refine zF h3 ?_|(refine zI ?_;intro hlt)|(refine zC ?_ ?_<;>first|intro h|simp)|refine zE ?_|fail)
  all_goals first
   |exact(e16 (by omega)).symm
   |exact(e0 (by omega)).symm
   |trace_state
 ·rw[if_neg hok]at h2
  rw[qtr hok]
  refine zT mix Tryz.func112 Tryz.ntmps112 Tryz.results112 rfl rfl rfl ?_;simp only[qab,Nat.reduceAdd]
  repeat'(first|((with_reducible apply qkc);rfl;rfl;rfl)|((with_reducible apply(qaS 13 [[11],[]]));decide +kernel;rfl)|(with_reducible apply qaR)|(with_reducible apply qav)|(with_reducible apply qas)|(with_reducible apply qby)|(with_reducible apply qaA)|(with_reducible apply qcv)|(with_reducible apply qaw)|((with_reducible apply qa9);rfl;(intro id'))|((with_reducible apply qaT);rfl)|(with_reducible rfl)|refine zS ?_|refine zA ?_|refine zF h1 ?_|refine zF h2 ?_|refine zE ?_|fail)
  all_goals first
   |rfl
   |trace_state
def qfc(a b:List Nat):Bool:=a.any fun i=>inN b i
theorem qyl(b:List Nat)(hb:b.length<1000000000000)(i:Int):Contract Tryz.prog 294 [.int .i64 i,.ptr [.sl (b.map qcx)]] (.ret (.bool (inN b i))):=by
 have h1:=qDs b hb i
 refine zT mix Tryz.func294 Tryz.ntmps294 Tryz.results294 rfl rfl rfl ?_;simp only[qab,Nat.reduceAdd]
 repeat'(first|(with_reducible rfl)|refine zQ ?_|refine zF h1 ?_|refine zE ?_|fail)
theorem qAv(a b:List Nat)(ha:a.length<1000000000000)(hb:b.length<1000000000000):Contract Tryz.prog 263 [.sl (a.map qcx),.sl (b.map qcx)] (.ret (.bool (qfc a b))):=by
 have h1:=qCN (a.map fun i:Nat=>(i:Int)) (by simpa using ha) 294 [.ptr [.sl (b.map qcx)]] (fun _ _=>rfl) rfl (fun i=>inN b i) fun x _=>qyl b hb x
 have e:(a.map fun i:Nat=>(i:Int)).map qal=a.map qcx:=by rw[List.map_map];rfl
 have e2:((a.map fun i:Nat=>(i:Int)).any fun i=>inN b i)=qfc a b:=by rw[List.any_map];rfl
 rw[e,e2]at h1
 refine zT mix Tryz.func263 Tryz.ntmps263 Tryz.results263 rfl rfl rfl ?_;simp only[qab,Nat.reduceAdd]
 repeat'(first|(with_reducible rfl)|refine zQ ?_|refine zF h1 ?_|refine zE ?_|fail)
def qiD(p:Int×Int):List D:=[.int .i64 p.1,.int .i64 p.2]
theorem qFv:qfm qiD 2:=fun _=>⟨rfl,rfl⟩
def qvh(s:Site)(a b:Cut)(p q:Int×Int):Bool:=decide (max p.1 q.1<min p.2 q.2)&&(decide (a.dredger=b.dredger)||qfc (qaD s a) (qaD s b))
def qEa(s:Site)(l:List Cut)(sp:List (Int×Int))(k i:Nat):Bool:=match l[i]?,l[k]?,sp[i]?,sp[k]? with
 |some a,some b,some p,some q=>qvh s a b p q
 |_,_,_,_=>false
theorem qrF{s:Site}{l:List Cut}{sp:List (Int×Int)}{k i:Nat}(h1:i<l.length)(h2:k<l.length)(h3:i<sp.length)(h4:k<sp.length):qEa s l sp k i=qvh s l[i] l[k] sp[i] sp[k]:=by
 simp only[qEa,List.getElem?_eq_getElem h1,List.getElem?_eq_getElem h2,List.getElem?_eq_getElem h3,List.getElem?_eq_getElem h4]
def crossE(s:Site)(l:List Cut)(sp:List (Int×Int))(k:Nat):Bool:=(List.range k).any (qEa s l sp k)
theorem qym{s:Site}{l:List Cut}{sp:List (Int×Int)}{k i:Nat}(hi:i<k)(h:qEa s l sp k i=true):crossE s l sp k=true:=List.any_eq_true.2 ⟨i,List.mem_range.2 hi,h⟩
theorem qAw{s:Site}{l:List Cut}{sp:List (Int×Int)}{k:Nat}(h:∀i,i<k→qEa s l sp k i=false):crossE s l sp k=false:=List.any_eq_false.2 fun i hi=>by rw[h i (List.mem_range.1 hi)];simp
theorem qyn(s:Site)(hs:OkGrid s.bed)(l:List Cut)(hll:l.length≤1000000)(hl:∀i (hi:i<l.length),OkCut s l[i])(sp:List (Int×Int))(k:Nat)(hk:k<l.length)(hsp:k<sp.length):Contract Tryz.prog 217 [.agg (encSite s),.sl (l.map encCut),.sl (sp.map qiD),.int .i64 k] (.ret (.bool (crossE s l sp k))):=by
 have h2:=qeG s hs l[k] (hl k hk)
 obtain⟨ha2,hlt2,hpos2,hle2⟩:=qbm hs (hl k hk)
 refine zT mix Tryz.func217 Tryz.ntmps217 Tryz.results217 rfl rfl rfl ?_;simp only[qab,Nat.reduceAdd]
 repeat'(first|refine zQ ?_|fail)
 refine qad k (fun i=>⟨[(17,.int .i64 i),(16,.int .i64 ((l.take k).length:Nat)),(15,.sl ((l.take k).map encCut)),(1,.sl (l.map encCut)),(2,.sl (sp.map qiD)),(3,.int .i64 k),(4,.op 0 0 0)],[(0,⟨12,true,[encSite s]⟩)],32,64⟩) (fun i=>∀j,j<i→qEa s l sp k j=false) ?_ (by omega) ?_
 ·exact qaa (nx:=32) (k:=0) (ns:=[]) (ks:=[17,16,15,1,2,3,4]) [(0,0)] rfl (by simp) (by kernel_rfl)
 intro i hi hC
 have htl:(l.take k).length=k:=by rw[List.length_take];omega
 by_cases hL:i<k
 ·have hil:i<l.length:=by omega
  have his:i<sp.length:=by omega
  have htk:∀(hh:i<(l.take k).length),(l.take k)[i]=l[i]:=fun hh=>List.getElem_take
  have h1:Contract Tryz.prog 121 [.agg (encSite s),.agg (encCut ((l.take k)[i]'(by omega)))] (.ret (.sl ((qaD s l[i]).map qcx))):=by rw[htk];exact qeG s hs l[i] (hl i hil)
  obtain⟨ha1,hlt1,hpos1,hle1⟩:=qbm hs (hl i hil)
  have h3:=qAv (qaD s l[i]) (qaD s l[k]) (by omega) (by omega)
  have hw:=qrF (s:=s) (k:=k) hil hk his hsp
  have hyes:=fun h=>qym (s:=s) (l:=l) (sp:=sp) hL h
  unfold qvh at hw
  generalize qaD s l[i]=f1 at*
  generalize qaD s l[k]=f2 at*
  generalize qfc f1 f2=cm at*
  repeat'(first|((with_reducible apply(qaS 10 [[4,5,6,7],[]]));decide +kernel;rfl)|(with_reducible apply qaR)|(with_reducible apply qav)|(with_reducible apply qas)|(with_reducible apply qby)|(with_reducible apply qaA)|(with_reducible apply qcv)|(with_reducible apply qaw)|((with_reducible apply qa9);rfl;(intro id'))|((with_reducible apply qaT);rfl)|refine zS ?_|refine zA ?_|refine zF h1 ?_|refine zF h2 ?_|refine zF h3 ?_|(refine zI ?_;intro hlt)|(refine zC ?_ ?_<;>first|intro h|simp)|(refine zG ?_ ?_<;>first|intro h|simp)|((with_reducible apply qaz);rfl;rfl)|refine zE ?_|fail)
  all_goals try exact absurd hL (by omega)
  all_goals clear h1 h2 h3 ha1 ha2 hlt1 hlt2 hpos1 hpos2 hle1 hle2
  all_goals try simp only[htk]at*
  all_goals first
   |exact(hyes (hw.trans (by simp_all;done))).symm
   |(refine⟨by omega,fun j hj=>?_,qaa (nx:=32) (k:=0) (ns:=[]) (ks:=[17,16,15,1,2,3,4]) [(0,0)] rfl (by simp) (by kernel_rfl)⟩
     rcases Nat.lt_succ_iff_lt_or_eq.1 hj with h'|rfl
     ·exact hC j h'
     ·exact hw.trans (by first|(simp_all;done)|(simp_all;intro hh;omega)))
   |trace_state
 ·rw[qAw fun j hj=>hC j (by omega)]
  repeat'(first|((with_reducible apply(qaS 10 [[4,5,6,7],[]]));decide +kernel;rfl)|(with_reducible apply qaR)|(with_reducible apply qav)|(with_reducible apply qas)|(with_reducible apply qby)|(with_reducible apply qaA)|(with_reducible apply qcv)|(with_reducible apply qaw)|((with_reducible apply qa9);rfl;(intro id'))|((with_reducible apply qaT);rfl)|(with_reducible rfl)|refine zS ?_|refine zA ?_|(refine zI ?_;intro hlt)|(refine zC ?_ ?_<;>first|intro h|simp)|(refine zG ?_ ?_<;>first|intro h|simp)|((with_reducible apply qaz);rfl;rfl)|refine zE ?_|fail)
  all_goals first
   |exact absurd hL (by omega)
   |rfl
   |trace_state
end Go.Pv.Soil

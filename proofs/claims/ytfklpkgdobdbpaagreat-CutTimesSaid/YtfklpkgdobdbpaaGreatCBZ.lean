import Derived.Test.YtfklpkgdobdbpaaGreatCBW
/- Part of the proofs over YtfklpkgdobdbpaaGreat: N68, N69, N70. -/
set_option linter.unusedVariables false
set_option linter.unusedSimpArgs false
set_option linter.unnecessarySimpa false
open Go Go.Proofs Go.Pv
set_option maxHeartbeats 8000000
set_option maxRecDepth 100000
set_option linter.unusedSimpArgs false
set_option linter.unusedVariables false
namespace Go.Pv.Soil
theorem qrL(s:Site)(hz:Sized s)(hs:OkSite s)(h100:s.bed.levels.length≤100)(l:List Cut)(hll:l.length≤1000)(hl:∀i (hi:i<l.length),OkCut s l[i])(n:Nat)(hn:n<l.length):Contract Tryz.prog 75 [.agg (encSite s),.sl (l.map encCut),.int .i64 n] (.ret (.agg (qiD (spE s l n)))):=by
 have hok:=qgE hs hl n
 have hlen:=hok.len hs.bed
 have h1:=qlW s hs l (by omega) hl n (by omega)
 have h2:Contract Tryz.prog 48 [.agg (encSite s),.agg (qag (qcz s l n)),.agg (encCut l[n])] (.ret (.tup [.int .i64 (qcq s (qcz s l n) l[n]).1,.int .i64 (qcq s (qcz s l n) l[n]).2.1,.int .i64 (qBH (qcq s (qcz s l n) l[n]))])):=qko s hs hz (qcz s l n) hok (by omega) l[n] (hl n hn)
 have hst:=(hl n hn).st
 have hef:=qiA hs hok (by omega) (hl n hn)
 rw[qBP hn]
 unfold qiD
 generalize qBH (qcq s (qcz s l n) l[n])=x3 at*
 generalize (qcq s (qcz s l n) l[n]).1=x1 at*
 generalize (qcq s (qcz s l n) l[n]).2.1=x2 at*
 generalize qcz s l n=g at*
 refine zT mix Tryz.func75 Tryz.ntmps75 Tryz.results75 rfl rfl rfl ?_;simp only[qab,Nat.reduceAdd]
 repeat'(first|refine zQ ?_|refine zF h1 ?_|refine zF h2 ?_|(refine zI ?_;intro hlt)|refine zE ?_|fail)
 all_goals first|rfl|trace_state
theorem qFS(s:Site)(hz:Sized s)(hs:OkSite s)(h100:s.bed.levels.length≤100)(l:List Cut)(hll:l.length≤1000)(hl:∀i (hi:i<l.length),OkCut s l[i])(i k:Nat)(hi:i<l.length)(hk:k<l.length):Contract Tryz.prog 151 [.agg (encSite s),.sl (l.map encCut),.int .i64 i,.int .i64 k] (.ret (.bool (qvh s l[i] l[k] (spE s l i) (spE s l k)))):=by
 have h1:=qrL s hz hs h100 l hll hl i hi
 have h2:=qrL s hz hs h100 l hll hl k hk
 have h3:=qdL s hs.bed l[i] (hl i hi)
 have h4:=qdL s hs.bed l[k] (hl k hk)
 obtain⟨_,_,_,hf1⟩:=qbm hs.bed (hl i hi)
 obtain⟨_,_,_,hf2⟩:=qbm hs.bed (hl k hk)
 unfold qvh
 unfold qiD at h1 h2
 generalize spE s l i=p at*
 generalize spE s l k=q at*
 by_cases hmm:max p.1 q.1<min p.2 q.2
 rotate_left
 ·rw[decide_eq_false hmm,Bool.false_and]
  refine zT mix Tryz.func151 Tryz.ntmps151 Tryz.results151 rfl rfl rfl ?_;simp only[qab,Nat.reduceAdd]
  repeat'(first|(with_reducible rfl)|refine zQ ?_|refine zF h1 ?_|refine zF h2 ?_|(refine zI ?_;intro hlt)|(refine zC ?_ ?_<;>first|intro h|simp)|((with_reducible apply qaz);rfl;rfl)|refine zE ?_|fail)
  all_goals first|rfl|(exfalso;omega)|trace_state
 by_cases hd:l[i].dredger=l[k].dredger
 ·rw[decide_eq_true hmm,decide_eq_true hd,Bool.true_or,Bool.and_true]
  refine zT mix Tryz.func151 Tryz.ntmps151 Tryz.results151 rfl rfl rfl ?_;simp only[qab,Nat.reduceAdd]
  repeat'(first|(with_reducible rfl)|refine zQ ?_|refine zF h1 ?_|refine zF h2 ?_|(refine zI ?_;intro hlt)|(refine zC ?_ ?_<;>first|intro h|simp)|((with_reducible apply qaz);rfl;rfl)|refine zE ?_|fail)
  all_goals first|rfl|(exfalso;omega)|(exfalso;simp[hd]at *;done)|trace_state
 rw[decide_eq_true hmm,decide_eq_false hd,Bool.false_or,Bool.true_and]
 unfold qfc
 have h5:=fun v=>qrD (qaD s l[k]) (by omega) v
 generalize qaD s l[i]=fa at*
 generalize qaD s l[k]=fb at*
 refine zT mix Tryz.func151 Tryz.ntmps151 Tryz.results151 rfl rfl rfl ?_;simp only[qab,Nat.reduceAdd]
 repeat'(first|refine zQ ?_|refine zF h1 ?_|refine zF h2 ?_|refine zF h3 ?_|(refine zI ?_;intro hlt)|(refine zC ?_ ?_<;>first|intro h|simp)|((with_reducible apply qaz);rfl;rfl)|fail)
 all_goals try(exfalso;omega)
 all_goals try(exfalso;simp[hd]at *;done)
 refine qad fa.length (fun j=>⟨[(12,.int .i64 j),(11,.sl (fa.map qcx)),(1,.sl (l.map encCut)),(3,.int .i64 k),(4,.op 0 0 0)],[(0,⟨12,true,[encSite s]⟩)],32,66⟩) (fun j=>∀m (hm:m<fa.length),m<j→inN fb fa[m]=false) ?_ (fun m hm h=>absurd h (by omega)) ?_
 ·exact qaa (nx:=32) (k:=0) (ns:=[]) (ks:=[12,11,1,3,4]) [(0,0)] rfl (by simp) (by kernel_rfl)
 intro j hj hC
 by_cases hL:j<fa.length
 rotate_left
 ·have e:(fa.any fun i=>inN fb i)=false:=by
   rw[List.any_eq_false]
   intro x hx
   obtain⟨m,hm,rfl⟩:=List.getElem_of_mem hx
   rw[hC m hm (by omega)];simp
  rw[e]
  repeat'(first|(with_reducible rfl)|refine zQ ?_|(refine zI ?_;intro hlt)|(refine zC ?_ ?_<;>first|intro h|simp)|refine zE ?_|fail)
  all_goals first|rfl|exact absurd hL (by omega)|trace_state
 cases hin:inN fb fa[j]with
 |true=>
  have e:(fa.any fun i=>inN fb i)=true:=List.any_eq_true.2 ⟨_,List.getElem_mem hL,hin⟩
  rw[e]
  have h6:=h5 fa[j]
  rw[hin]at h6
  repeat'(first|(with_reducible rfl)|refine zQ ?_|refine zF h4 ?_|refine zF h6 ?_|(refine zI ?_;intro hlt)|(refine zC ?_ ?_<;>first|intro h|simp)|refine zE ?_|fail)
  all_goals first|rfl|exact absurd hL (by omega)|trace_state
 |false=>
  have h6:=h5 fa[j]
  rw[hin]at h6
  repeat'(first|refine zQ ?_|refine zF h4 ?_|refine zF h6 ?_|(refine zI ?_;intro hlt)|(refine zC ?_ ?_<;>first|intro h|simp)|fail)
  all_goals first
   |exact absurd hL (by omega)
   |exact⟨hL,(fun m hm hmj=>by
     rcases Nat.lt_succ_iff_lt_or_eq.1 hmj with h'|rfl
     ·exact hC m hm h'
     ·exact hin),qaa (nx:=32) (k:=0) (ns:=[]) (ks:=[12,11,1,3,4]) [(0,0)] rfl (by simp) (by kernel_rfl)⟩
   |trace_state
theorem qrM{a b:List Nat}:qfc a b=qfc b a:=by
 have key:∀{a b:List Nat},qfc a b=true→qfc b a=true:=fun{a b} h=>by
  unfold qfc inN at*
  obtain⟨x,hx,h⟩:=List.any_eq_true.1 h
  obtain⟨y,hy,h⟩:=List.any_eq_true.1 h
  have e:(x:Int)=y:=of_decide_eq_true h
  have e:x=y:=by omega
  subst e
  exact List.any_eq_true.2 ⟨x,hy,List.any_eq_true.2 ⟨x,hx,decide_eq_true rfl⟩⟩
 rw[Bool.eq_iff_iff]
 exact⟨key,key⟩
theorem qtP{s:Site}{a b:Cut}{p q:Int×Int}:qvh s a b p q=qvh s b a q p:=by
 unfold qvh
 rw[qrM,Int.max_comm,Int.min_comm]
 congr 2
 rw[Bool.eq_iff_iff,decide_eq_true_eq,decide_eq_true_eq]
 exact⟨Eq.symm,Eq.symm⟩
theorem qoD{s:Site}{l:List Cut}{k i:Nat}(h:i<(spL s l k).length):(spL s l k)[i]=spE s l i:=by simp[spL]
theorem qtQ{s:Site}{l:List Cut}{k:Nat}(hk:k<l.length):crossE s l (spL s l (k+1)) k=(List.range k).any fun i=>match l[i]? with|some a=>qvh s l[k] a (spE s l k) (spE s l i)|none=>false:=by
 unfold crossE
 rw[Bool.eq_iff_iff,List.any_eq_true,List.any_eq_true]
 constructor
 ·rintro⟨i,hi,h⟩
  have hi':=List.mem_range.1 hi
  refine⟨i,hi,?_⟩
  rw[qrF (by omega) hk (by rw[qhI];omega) (by rw[qhI];omega),qoD,qoD]at h
  simp only[List.getElem?_eq_getElem (show i<l.length by omega)]
  rw[qtP];exact h
 ·rintro⟨i,hi,h⟩
  have hi':=List.mem_range.1 hi
  refine⟨i,hi,?_⟩
  rw[qrF (by omega) hk (by rw[qhI];omega) (by rw[qhI];omega),qoD,qoD]
  simp only[List.getElem?_eq_getElem (show i<l.length by omega)]at h
  rw[qtP];exact h
theorem qvs{s:Site}{l:List Cut}{k i:Nat}(hk:k<l.length)(hi:i<k)(h:qvh s l[k] (l[i]'(by omega)) (spE s l k) (spE s l i)=true):crossE s l (spL s l (k+1)) k=true:=by
 rw[qtQ hk,List.any_eq_true]
 exact⟨i,List.mem_range.2 hi,by simp only[List.getElem?_eq_getElem (show i<l.length by omega)];exact h⟩
theorem qyT{s:Site}{l:List Cut}{k:Nat}(hk:k<l.length)(h:∀i (hi:i<k),qvh s l[k] (l[i]'(by omega)) (spE s l k) (spE s l i)=false):crossE s l (spL s l (k+1)) k=false:=by
 rw[qtQ hk,List.any_eq_false]
 intro i hi
 have hi':=List.mem_range.1 hi
 simp only[List.getElem?_eq_getElem (show i<l.length by omega)]
 rw[h i hi'];simp
theorem qyU(s:Site)(hz:Sized s)(hs:OkSite s)(h100:s.bed.levels.length≤100)(l:List Cut)(hll:l.length≤1000)(hl:∀i (hi:i<l.length),OkCut s l[i]):
  Contract Tryz.prog 71 [.agg (encSite s),.sl (l.map encCut)] (.ret (.tup [.agg (qyo (qbb s l l.length)),.bool (qbb s l l.length).isSome])):=by
 refine zT mix Tryz.func71 Tryz.ntmps71 Tryz.results71 rfl rfl rfl ?_;simp only[qab,Nat.reduceAdd]
 repeat'(first|refine zQ ?_|fail)
 refine qad l.length (fun i=>⟨[(6,.int .i64 i),(5,.bool false),(1,.sl (l.map encCut)),(2,.op 0 0 0),(4,.op 1 0 0)],[(0,⟨12,true,[encSite s]⟩),(1,⟨3,true,[[.int .i64 0,.int .i64 0,.int .i64 0]]⟩)],64,75⟩) (fun i=>∀j,j<i→qvi s l j=none) ?_ (fun j hj=>absurd hj (by omega)) ?_
 ·exact qaa (nx:=64) (k:=0) (ns:=[]) (ks:=[6,5,1,2,4]) [(0,0),(32,1)] rfl (by simp) (by kernel_rfl)
 intro i hi hC
 by_cases hL:i<l.length
 rotate_left
 ·obtain rfl:i=l.length:=by omega
  rw[qfX hC]
  repeat'(first|refine zQ ?_|(refine zI ?_;intro hlt)|(refine zC ?_ ?_<;>first|intro h|simp)|fail)
  all_goals first
   |exact absurd (show l.length<l.length by omega) hL
   |exact qcF rfl rfl rfl rfl
   |trace_state
 obtain⟨hfa,hflt,hfp,hfle⟩:=qbm hs.bed (hl i hL)
 have h1:=qdL s hs.bed l[i] (hl i hL)
 have hf0:(qaD s l[i])[0]'hfp=qlU s l[i]:=by unfold qlU;rw[List.getD_eq_getElem?_getD,List.getElem?_eq_getElem hfp];rfl
 have hst:=qdN hL
 have hvk:=qjq (s:=s) hL
 have e1:((i:Int)-1).toNat=i-1:=by omega
 by_cases hor:0<i∧qfd l i<qfd l (i-1)
 ·rw[if_pos hor]at hvk
  rw[qeM hC hvk hL]
  have hst2:=qdN (l:=l) (k:=i-1) (by omega)
  rw[hst,hst2]at hor
  rw[←hf0]
  repeat'(first|refine zQ ?_|refine zF h1 ?_|(refine zI ?_;intro hlt)|(refine zC ?_ ?_<;>first|intro h|simp)|(refine zG ?_ ?_<;>first|intro h|simp)|fail)
  all_goals first
   |(exfalso;omega)
   |(exfalso;simp only[e1]at *;omega)
   |exact qcF rfl rfl rfl rfl
   |trace_state
 rw[if_neg hor]at hvk
 have hor2:∀(h:0<i),¬l[i].start<(l[i-1]'(by omega)).start:=fun h h2=>hor ⟨h,by rw[hst,qdN (l:=l) (k:=i-1) (by omega)];exact h2⟩
 have hok:=qgE hs hl i
 have hlen:=hok.len hs.bed
 have h2:=fun(k:Nat) (hk:k<l.length)=>qFS s hz hs h100 l hll hl i k hL hk
 have h3:=qlW s hs l (by omega) hl i hi
 have h4:=qqg s hz hs (qcz s l i) hok (by omega) l[i] (hl i hL)
 have hcy:=fun(k:Nat) (hk:k<i)=>qvs (s:=s) hL hk
 have hcn:=qyT (s:=s) hL
 repeat'(first|refine zA ?_|fail)
 all_goals try(exfalso;omega)
 all_goals try(exfalso;simp only[e1]at *;exact hor2 (by omega) (by omega))
 refine qbK ?_
 repeat'(first|refine zA ?_|fail)
 all_goals try(exfalso;omega)
 all_goals try(exfalso;simp only[e1]at *;exact hor2 (by omega) (by omega))
 refine qbK ?_
 repeat'(first|(with_reducible apply qbD)|refine zA ?_|(refine zC ?_ ?_<;>first|intro h|simp)|fail)
 all_goals try(exfalso;omega)
 all_goals try(exfalso;simp only[e1]at *;exact hor2 (by omega) (by omega))
 refine qbK ?_
 repeat'(first|refine zA ?_|fail)
 all_goals try(exfalso;omega)
 all_goals try(exfalso;simp only[e1]at *;exact hor2 (by omega) (by omega))
 refine qbK ?_
 repeat'(first|((with_reducible apply qsi);kernel_rfl;rfl)|refine zA ?_|refine zF h1 ?_|(refine zI ?_;intro hlt)|fail)
 all_goals try(exfalso;omega)
 all_goals try(exfalso;simp only[e1]at *;exact hor2 (by omega) (by omega))
 refine Or.inr ⟨⟨[(7,.int .i64 (((qaD s l[i])[0]'hfp:Nat):Int)),(6,.int .i64 i),(5,.bool false),(1,.sl (l.map encCut)),(2,.op 0 0 0),(4,.op 1 0 0)],[(0,⟨12,true,[encSite s]⟩),(1,⟨3,true,[[.int .i64 0,.int .i64 0,.int .i64 0]]⟩)],96,75⟩,?_,?_⟩
 ·repeat'(first|refine zQ ?_|(refine zI ?_;intro hlt)|(refine zC ?_ ?_<;>first|intro h|simp)|(refine zG ?_ ?_<;>first|intro h|simp)|fail)
  all_goals try(exfalso;omega)
  all_goals try(exfalso;simp only[e1]at *;exact hor2 (by omega) (by omega))
  all_goals first
   |exact qaa (nx:=96) (k:=0) (ns:=[]) (ks:=[7,6,5,1,2,4]) [(0,0),(1,1)] rfl (by simp) (by kernel_rfl)
   |trace_state
 rw[hf0]
 generalize qlU s l[i]=f0 at*
 repeat'(first|refine zQ ?_|fail)
 refine qad i (fun k=>⟨[(8,.int .i64 k),(7,.int .i64 f0),(6,.int .i64 i),(5,.bool false),(1,.sl (l.map encCut)),(2,.op 0 0 0),(4,.op 1 0 0)],[(0,⟨12,true,[encSite s]⟩),(1,⟨3,true,[[.int .i64 0,.int .i64 0,.int .i64 0]]⟩)],96,75⟩) (fun k=>∀m (hm:m<i),m<k→qvh s l[i] (l[m]'(by omega)) (spE s l i) (spE s l m)=false) ?_ (fun m hm h=>absurd h (by omega)) ?_
 ·exact qaa (nx:=96) (k:=0) (ns:=[]) (ks:=[8,7,6,5,1,2,4]) [(0,0),(1,1)] rfl (by simp) (by kernel_rfl)
 intro k hk hC2
 by_cases hK:k<i
 ·have h5:=h2 k (by omega)
  cases hway:qvh s l[i] (l[k]'(by omega)) (spE s l i) (spE s l k)with
  |true=>
   rw[hway]at h5
   rw[if_pos (hcy k hK hway)]at hvk
   rw[qeM hC hvk hL]
   repeat'(first|((with_reducible apply(qaS 14 [[12],[]]));decide +kernel;rfl)|refine zS ?_|refine zA ?_|refine zF h5 ?_|(refine zC ?_ ?_<;>first|intro h|simp)|fail)
   all_goals first
    |exact absurd hK (by omega)
    |exact qcF rfl rfl rfl rfl
    |trace_state
  |false=>
   rw[hway]at h5
   repeat'(first|((with_reducible apply(qaS 14 [[12],[]]));decide +kernel;rfl)|refine zS ?_|refine zA ?_|refine zF h5 ?_|(refine zC ?_ ?_<;>first|intro h|simp)|fail)
   all_goals first
    |exact absurd hK (by omega)
    |exact⟨hK,(fun m hm hmj=>by
      rcases Nat.lt_succ_iff_lt_or_eq.1 hmj with h'|rfl
      ·exact hC2 m hm h'
      ·exact hway),qaa (nx:=96) (k:=0) (ns:=[]) (ks:=[8,7,6,5,1,2,4]) [(0,0),(1,1)] rfl (by simp) (by kernel_rfl)⟩
    |trace_state
 obtain rfl:k=i:=by omega
 have hno:=hcn fun m hm=>hC2 m hm hm
 rw[if_neg (by rw[hno];simp)]at hvk
 rw[←hvk]at h4
 cases hv:qvi s l k with
 |some v=>
  obtain⟨r,ce⟩:=v
  rw[hv]at h4
  rw[qeM hC hv hL]
  repeat'(first|((with_reducible apply(qaS 14 [[12],[]]));decide +kernel;rfl)|(with_reducible apply qaR)|(with_reducible apply qav)|(with_reducible apply qas)|(with_reducible apply qby)|(with_reducible apply qaA)|(with_reducible apply qcv)|(with_reducible apply qaw)|((with_reducible apply qa9);rfl;(intro id'))|((with_reducible apply qaT);rfl)|refine zS ?_|refine zA ?_|refine zF h3 ?_|refine zF h4 ?_|(refine zI ?_;intro hlt)|(refine zC ?_ ?_<;>first|intro h|simp)|fail)
  all_goals first
   |exact absurd (show k<k by omega) hK
   |exact qcF rfl rfl rfl rfl
   |trace_state
 |none=>
  rw[hv]at h4
  repeat'(first|((with_reducible apply(qaS 14 [[12],[]]));decide +kernel;rfl)|(with_reducible apply qaR)|(with_reducible apply qav)|(with_reducible apply qas)|(with_reducible apply qby)|(with_reducible apply qaA)|(with_reducible apply qcv)|(with_reducible apply qaw)|((with_reducible apply qa9);rfl;(intro id'))|((with_reducible apply qaT);rfl)|refine zS ?_|refine zA ?_|refine zF h3 ?_|refine zF h4 ?_|(refine zI ?_;intro hlt)|(refine zC ?_ ?_<;>first|intro h|simp)|fail)
  all_goals first
   |exact absurd (show k<k by omega) hK
   |exact⟨hL,(fun m hm=>by
     rcases Nat.lt_succ_iff_lt_or_eq.1 hm with h'|rfl
     ·exact hC m h'
     ·exact hv),qaa (nx:=64) (k:=0) (ns:=[]) (ks:=[6,5,1,2,4]) [(0,0),(1,1)] rfl (by simp) (by kernel_rfl)⟩
   |trace_state
def qyV(s:Site)(l:List Cut)(i:Nat):Bool:=match l[i]? with
 |some c=>qjl s s.bed c||qjl s (qcz s l i) c
 |none=>false
def qvt(s:Site)(l:List Cut):Bool:=(List.range l.length).any (qyV s l)
theorem qAO{s:Site}{l:List Cut}{i:Nat}(h:i<l.length):qyV s l i=(qjl s s.bed l[i]||qjl s (qcz s l i) l[i]):=by simp only[qyV,List.getElem?_eq_getElem h]
theorem qBV(s:Site)(hz:Sized s)(hs:OkSite s)(h100:s.bed.levels.length≤100)(l:List Cut)(hll:l.length≤1000)(hl:∀i (hi:i<l.length),OkCut s l[i]):Contract Tryz.prog 70 [.agg (encSite s),.sl (l.map encCut)] (.ret (.bool (qvt s l))):=by
 refine zT mix Tryz.func70 Tryz.ntmps70 Tryz.results70 rfl rfl rfl ?_;simp only[qab,Nat.reduceAdd]
 repeat'(first|refine zQ ?_|fail)
 refine qad l.length (fun i=>⟨[(5,.int .i64 i),(1,.sl (l.map encCut)),(2,.op 0 0 0)],[(0,⟨12,true,[encSite s]⟩)],32,32⟩) (fun i=>∀j,j<i→qyV s l j=false) ?_ (fun j hj=>absurd hj (by omega)) ?_
 ·exact qaa (nx:=32) (k:=0) (ns:=[]) (ks:=[5,1,2]) [(0,0)] rfl (by simp) (by kernel_rfl)
 intro i hi hC
 by_cases hL:i<l.length
 rotate_left
 ·have e:qvt s l=false:=by
   unfold qvt
   rw[List.any_eq_false]
   intro j hj
   rw[hC j (by have:=List.mem_range.1 hj;omega)];simp
  rw[e]
  repeat'(first|(with_reducible rfl)|refine zQ ?_|(refine zI ?_;intro hlt)|(refine zC ?_ ?_<;>first|intro h|simp)|refine zE ?_|fail)
  all_goals first|rfl|exact absurd hL (by omega)|trace_state
 have hok:=qgE hs hl i
 have hlen:=hok.len hs.bed
 have h1:=qx0 s hs hz s.bed (qfW s hs) h100 l[i] (hl i hL)
 have h2:=qlW s hs l (by omega) hl i hi
 have h3:=qx0 s hs hz (qcz s l i) hok (by omega) l[i] (hl i hL)
 have hli:=qAO (s:=s) hL
 cases hv:qyV s l i with
 |true=>
  have e:qvt s l=true:=List.any_eq_true.2 ⟨i,List.mem_range.2 hL,hv⟩
  rw[e]
  rw[hv]at hli
  generalize qjl s s.bed l[i]=x at*
  generalize qjl s (qcz s l i) l[i]=y at*
  generalize qcz s l i=g at*
  cases x with
  |true=>
   repeat'(first|(with_reducible rfl)|refine zQ ?_|refine zF h1 ?_|(refine zI ?_;intro hlt)|(refine zC ?_ ?_<;>first|intro h|simp)|refine zE ?_|fail)
   all_goals first|rfl|exact absurd hL (by omega)|trace_state
  |false=>
   have hy:y=true:=by simpa using hli.symm
   subst hy
   repeat'(first|(with_reducible rfl)|refine zQ ?_|refine zF h1 ?_|refine zF h2 ?_|refine zF h3 ?_|(refine zI ?_;intro hlt)|(refine zC ?_ ?_<;>first|intro h|simp)|refine zE ?_|fail)
   all_goals first|rfl|exact absurd hL (by omega)|trace_state
 |false=>
  rw[hv]at hli
  generalize qjl s s.bed l[i]=x at*
  generalize qjl s (qcz s l i) l[i]=y at*
  generalize qcz s l i=g at*
  obtain⟨hx,hy⟩:x=false∧y=false:=Bool.or_eq_false_iff.1 hli.symm
  subst hx hy
  repeat'(first|refine zQ ?_|refine zF h1 ?_|refine zF h2 ?_|refine zF h3 ?_|(refine zI ?_;intro hlt)|(refine zC ?_ ?_<;>first|intro h|simp)|fail)
  all_goals first
   |exact absurd hL (by omega)
   |exact⟨hL,(fun m hm=>by
     rcases Nat.lt_succ_iff_lt_or_eq.1 hm with h'|rfl
     ·exact hC m h'
     ·exact hv),qaa (nx:=32) (k:=0) (ns:=[]) (ks:=[5,1,2]) [(0,0)] rfl (by simp) (by kernel_rfl)⟩
   |trace_state
theorem qvu(o:Option (Nat×Int×Int)):∃x y,qyo o=[.int .i64 x,.int .i64 y,.int .i64 (qvj o)]:=by cases o<;>exact⟨_,_,rfl⟩
theorem law_plans(s:Site)(hw:Wide s)(l:List Cut)(hl:l.length≤9223372036854775807)(n:Int)(hn:I64 n):Contract Tryz.prog 13 [.agg (encSite s),.sl (l.map encCut),.int .i64 n] (.ret (.bool true)):=by
 have h0:=qoC
 have h1:=qkv s hw
 have h2:Contract Tryz.prog 21 [.sl (l.map encCut),.int .i64 5] (.ret (.bool (qvG l 5))):=qAN l hl 5 (by omega)
 cases hs:qmv s with
 |false=>
  rw[hs]at h1
  refine zT mix Tryz.func13 Tryz.ntmps13 Tryz.results13 rfl rfl rfl ?_;simp only[qab,Nat.reduceAdd]
  repeat'(first|(with_reducible rfl)|refine zQ ?_|refine zF h0 ?_|refine zF h1 ?_|refine zE ?_|fail)
  all_goals first|rfl|(exfalso;simp at *;done)|trace_state
 |true=>
 rw[hs]at h1
 obtain⟨hz,h16,hd8,_,_,_⟩:=qgZ hw hs
 cases hf:qvG l 5 with
 |false=>
  rw[hf]at h2
  refine zT mix Tryz.func13 Tryz.ntmps13 Tryz.results13 rfl rfl rfl ?_;simp only[qab,Nat.reduceAdd]
  repeat'(first|(with_reducible rfl)|refine zQ ?_|refine zF h0 ?_|refine zF h1 ?_|refine zF h2 ?_|refine zE ?_|fail)
  all_goals first|rfl|(exfalso;simp at *;done)|trace_state
 |true=>
 rw[hf]at h2
 have hlen:=qyQ hf
 have a1:=qDx s hz (by omega) l hl n
 have a2:=qfS s hz l hl (by omega)
 have a3:=qos s hz (by omega) (by omega) l hl
 have a4:=qhJ s hz (by omega) (by omega) l hl
 have a8:=qyS qrj (by decide)
 rw[qqv]at a8
 by_cases hall:qcy s l=0
 rotate_left
 ·have e1:qBO s l n=(qrj,qcy s l):=if_pos hall
  have e2:qgF s l=none:=if_neg hall
  have e3:qfv s l=qcy s l:=if_pos hall
  rw[e1]at a1
  rw[e2]at a3
  rw[e3]at a4
  generalize qcy s l=q at*
  refine zT mix Tryz.func13 Tryz.ntmps13 Tryz.results13 rfl rfl rfl ?_;simp only[qab,Nat.reduceAdd]
  repeat'(first|refine zQ ?_|refine zF h0 ?_|refine zF h1 ?_|refine zF h2 ?_|refine zF a1 ?_|refine zF a2 ?_|refine zF a3 ?_|refine zF a4 ?_|refine zF a8 ?_|(refine zC ?_ ?_<;>first|intro h|simp)|(refine zG ?_ ?_<;>first|intro h|simp)|refine zE ?_|fail)
  all_goals first|rfl|(simp;done)|(exfalso;omega)|(exfalso;simp at *;done)|trace_state
 obtain⟨hls,hlc⟩:=qd7 hall
 have ok:=(qcw hall).1
 have e2:qgF s l=qbb s l l.length:=if_pos hall
 have e3:qfv s l=qvj (qbb s l l.length):=if_neg (not_not_intro hall)
 have b1:=qBV s hz ok (by omega) l (by omega) hlc
 have b2:=qyU s hz ok (by omega) l (by omega) hlc
 rw[e2]at a3
 rw[e3]at a4
 obtain⟨x,y,hp⟩:=qvu (qbb s l l.length)
 rw[hp]at a3 b2
 rw[hall]at a2 a3
 generalize qvj (qbb s l l.length)=ru at*
 generalize (qbb s l l.length).isSome=fs at*
 generalize qvt s l=lo at*
 by_cases hin:0≤n∧n≤l.length
 rotate_left
 ·have e1:qBO s l n=(qrj,2):=by unfold qBO;rw[if_neg (not_not_intro hall),if_neg hin]
  rw[e1]at a1
  refine zT mix Tryz.func13 Tryz.ntmps13 Tryz.results13 rfl rfl rfl ?_;simp only[qab,Nat.reduceAdd]
  repeat'(first|(with_reducible rfl)|refine zQ ?_|refine zF h0 ?_|refine zF h1 ?_|refine zF h2 ?_|refine zF a1 ?_|refine zF a2 ?_|refine zF a3 ?_|refine zF a4 ?_|refine zF a8 ?_|refine zF b1 ?_|refine zF b2 ?_|(refine zC ?_ ?_<;>first|intro h|simp)|(refine zG ?_ ?_<;>first|intro h|simp)|((with_reducible apply qaz);rfl;rfl)|refine zE ?_|fail)
  all_goals first|rfl|(simp;done)|(exfalso;omega)|(exfalso;simp at *;done)|trace_state
 obtain⟨k,rfl⟩:=Int.eq_ofNat_of_zero_le hin.1
 have e1:qBO s l (k:Int)=(qcz s l k,0):=by unfold qBO;rw[if_neg (not_not_intro hall),if_pos hin,Int.toNat_natCast]
 rw[e1]at a1
 have b3:=qlW s ok l (by omega) hlc k (by omega)
 have hok:=qgE ok hlc k
 have b4:=c32 (qcz s l k) (qcz s l k) (by have:=hok.len ok.bed;omega)
 rw[qqv]at b4
 generalize qcz s l k=g at*
 refine zT mix Tryz.func13 Tryz.ntmps13 Tryz.results13 rfl rfl rfl ?_;simp only[qab,Nat.reduceAdd]
 repeat'(first|(with_reducible rfl)|refine zQ ?_|refine zF h0 ?_|refine zF h1 ?_|refine zF h2 ?_|refine zF a1 ?_|refine zF a2 ?_|refine zF a3 ?_|refine zF a4 ?_|refine zF b1 ?_|refine zF b2 ?_|refine zF b3 ?_|refine zF b4 ?_|(refine zC ?_ ?_<;>first|intro h|simp)|(refine zG ?_ ?_<;>first|intro h|simp)|((with_reducible apply qaz);rfl;rfl)|refine zE ?_|fail)
 all_goals first|rfl|(simp;done)|(exfalso;omega)|(exfalso;simp at *;done)|trace_state
end Go.Pv.Soil

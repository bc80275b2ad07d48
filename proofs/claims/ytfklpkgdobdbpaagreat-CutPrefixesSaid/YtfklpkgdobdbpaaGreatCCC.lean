import Derived.Test.YtfklpkgdobdbpaaGreatCCB
/- Part of the proofs over YtfklpkgdobdbpaaGreat: N75. -/
set_option linter.unusedVariables false
set_option linter.unusedSimpArgs false
set_option linter.unnecessarySimpa false
open Go Go.Proofs Go.Pv
set_option maxHeartbeats 8000000
set_option maxRecDepth 100000
set_option linter.unusedSimpArgs false
set_option linter.unusedVariables false
namespace Go.Pv.Soil
theorem qL2{s:Site}{l:List Cut}{k i:Nat}(h:i<k):spE s (l.take k) i=spE s l i:=by
 simp only[spE,List.getElem?_take,if_pos h,qr4 i (Nat.le_of_lt h)]
theorem qL3{s:Site}{l:List Cut}{k n:Nat}(h:n≤k):spL s (l.take k) n=spL s l n:=by
 unfold spL
 refine List.map_congr_left fun i hi=>?_
 exact qL2 (by have:=List.mem_range.1 hi;omega)
theorem qLy{s:Site}{l:List Cut}{sp:List (Int×Int)}{k i:Nat}(h:i<k):crossE s (l.take k) sp i=crossE s l sp i:=by
 have e:∀j∈List.range i,qB1 s (l.take k) sp i j=qB1 s l sp i j:=by
  intro j hj
  have:=List.mem_range.1 hj
  simp only[qB1,List.getElem?_take,if_pos h,if_pos (show j<k by omega)]
 rw[Bool.eq_iff_iff]
 unfold crossE
 simp only[List.any_eq_true]
 constructor
 ·rintro⟨j,hj,h'⟩;exact⟨j,hj,by rw[←e j hj];exact h'⟩
 ·rintro⟨j,hj,h'⟩;exact⟨j,hj,by rw[e j hj];exact h'⟩
theorem qKN{l:List Cut}{k i:Nat}(h:i<k):qgd (l.take k) i=qgd l i:=by simp only[qgd,List.getElem?_take,if_pos h]
theorem qLM{s:Site}{l:List Cut}{k i:Nat}(h:i<k):qyG s (l.take k) i=qyG s l i:=by
 simp only[qyG,List.getElem?_take,if_pos h,qKN h,qKN (show i-1<k by omega),qL3 (s:=s) (l:=l) (show i+1≤k by omega),qLy h,qr4 i (Nat.le_of_lt h)]
theorem qKq{s:Site}{l:List Cut}{k:Nat}:∀{n:Nat},n≤k→qcv s (l.take k) n=qcv s l n
 |0,_=>rfl
 |n+1,h=>by simp only[qcv,qKq (show n≤k by omega),qLM (show n<k by omega)]
theorem qKW{s:Site}{l:List Cut}:∀{n:Nat},qcv s l n=none→∀k,k<n→qyG s l k=none
 |0,_,k,hk=>by omega
 |n+1,h,k,hk=>by
  rw[qcv,qwo]at h
  rcases Nat.lt_succ_iff_lt_or_eq.1 hk with h'|rfl
  ·exact qKW h.1 k h'
  ·exact Option.map_eq_none_iff.1 h.2
theorem qK0{s:Site}{l:List Cut}:∀{n:Nat} {k:Nat} {r c:Int},qcv s l n=some (k,r,c)→k<n∧(∀j,j<k→qyG s l j=none)∧qyG s l k=some (r,c)
 |0,k,r,c,h=>by cases h
 |n+1,k,r,c,h=>by
  rw[qcv]at h
  cases hf:qcv s l n with
  |some v=>
   rw[hf]at h
   have h2:some v=some (k,r,c):=h
   injection h2 with h2
   subst h2
   obtain⟨h3,h4⟩:=qK0 hf
   exact⟨by omega,h4⟩
  |none=>
   rw[hf]at h
   obtain⟨v,hv,e⟩:=Option.map_eq_some_iff.1 (show(qyG s l n).map (fun v=>(n,v.1,v.2))=some (k,r,c)from h)
   injection e with e1 e2
   injection e2 with e2 e3
   subst e1 e2 e3
   exact⟨by omega,qKW hf,hv⟩
theorem qLN{α:Type}{nm:α→ByteArray}{er:α→Int}{l:List α}(k:Nat)(h:qha nm er l=0):qha nm er (l.take k)=0:=by
 have h1:=qdq h
 refine qaB fun j hj=>?_
 rw[List.length_take]at hj
 have:=h1 j (by omega)
 simp only[qce,List.getElem?_take,if_pos (show j<k by omega),List.take_take]at this ⊢
 rw[show min j k=j by omega]
 exact this
theorem qL4{s:Site}{l:List Cut}(k:Nat)(h:qde s l=0):qde s (l.take k)=0:=by
 have h0:qfn s=0:=by
  unfold qde at h
  split at h
  ·contradiction
  ·rename_i h';exact Classical.not_not.1 h'
 have h1:=(qd4 h).2
 have h2:=(qfp h).1
 unfold qde
 rw[if_neg (not_not_intro h0)]
 unfold qlp at h1 ⊢
 rw[if_neg (by omega)]at h1
 rw[if_neg (by rw[List.length_take];omega)]
 exact qLN k h1
theorem law_prefixes(s:Site)(hw:Wide s)(l:List Cut)(hl:l.length≤9223372036854775807)(n:Int)(hn:0≤n∧n≤255):Contract Tryz.prog 14 [.agg (encSite s),.sl (l.map encCut),.int .u8 n] (.ret (.bool true)):=by
 have h0:=qqr
 have h2:Contract Tryz.prog 21 [.sl (l.map encCut),.int .i64 8] (.ret (.bool (qxb l 8))):=qBO l hl 8 (by omega)
 have hlv:=hw.lv
 by_cases h100:s.bed.levels.length≤100
 rotate_left
 ·refine zT mix Tryz.func14 Tryz.ntmps14 Tryz.results14 rfl rfl rfl ?_;simp only[qac,Nat.reduceAdd]
  repeat'(first|(with_reducible rfl)|refine zQ ?_|refine zF h0 ?_|refine zF h2 ?_|(refine zC ?_ ?_<;>first|intro h|simp)|(refine zG ?_ ?_<;>first|intro h|simp)|refine zE ?_|fail)
  all_goals first|rfl|(exfalso;omega)|(exfalso;simp at *;done)|trace_state
 cases hf:qxb l 8 with
 |false=>
  rw[hf]at h2
  refine zT mix Tryz.func14 Tryz.ntmps14 Tryz.results14 rfl rfl rfl ?_;simp only[qac,Nat.reduceAdd]
  repeat'(first|(with_reducible rfl)|refine zQ ?_|refine zF h0 ?_|refine zF h2 ?_|(refine zG ?_ ?_<;>first|intro h|simp)|refine zE ?_|fail)
  all_goals first|rfl|(exfalso;omega)|(exfalso;simp at *;done)|trace_state
 |true=>
 rw[hf]at h2
 have hlen:=qGf hf
 by_cases hg:FitS s
 rotate_left
 ·obtain⟨e,he,h3⟩:=qMq s hw h100 hg l hl
  refine zT mix Tryz.func14 Tryz.ntmps14 Tryz.results14 rfl rfl rfl ?_;simp only[qac,Nat.reduceAdd]
  repeat'(first|((with_reducible apply(qba 10 [[7,8],[8],[]]));decide +kernel;rfl)|(with_reducible rfl)|refine zS ?_|refine zA ?_|refine zF h0 ?_|refine zF h2 ?_|refine zF h3 ?_|(refine zC ?_ ?_<;>first|intro h|simp)|(refine zG ?_ ?_<;>first|intro h|simp)|refine zE ?_|fail)
  all_goals first|rfl|(exfalso;omega)|(exfalso;simp at *;done)|trace_state
 have a1:=qwI s hg.z hg.d h100 l hl
 by_cases hall:qde s l=0
 rotate_left
 ·have e2:qk9 s l=none:=if_neg hall
  rw[e2]at a1
  generalize qde s l=q at*
  refine zT mix Tryz.func14 Tryz.ntmps14 Tryz.results14 rfl rfl rfl ?_;simp only[qac,Nat.reduceAdd]
  repeat'(first|((with_reducible apply(qba 10 [[7,8],[8],[]]));decide +kernel;rfl)|(with_reducible rfl)|refine zS ?_|refine zA ?_|refine zF h0 ?_|refine zF h2 ?_|refine zF a1 ?_|(refine zC ?_ ?_<;>first|intro h|simp)|(refine zG ?_ ?_<;>first|intro h|simp)|refine zE ?_|fail)
  all_goals first|rfl|(exfalso;omega)|(exfalso;simp at *;done)|trace_state
 by_cases hnil:l.length=0
 ·rw[hall]at a1
  obtain⟨x,y,z,hp⟩:=qla (qk9 s l)
  rw[hp]at a1
  refine zT mix Tryz.func14 Tryz.ntmps14 Tryz.results14 rfl rfl rfl ?_;simp only[qac,Nat.reduceAdd]
  repeat'(first|((with_reducible apply(qba 10 [[7,8],[8],[]]));decide +kernel;rfl)|(with_reducible rfl)|refine zS ?_|refine zA ?_|refine zF h0 ?_|refine zF h2 ?_|refine zF a1 ?_|(refine zC ?_ ?_<;>first|intro h|simp)|(refine zG ?_ ?_<;>first|intro h|simp)|refine zE ?_|fail)
  all_goals first|rfl|(exfalso;omega)|(exfalso;simp at *;done)|trace_state
 have hk0:0≤n%((l.length:Int)+1)∧n%((l.length:Int)+1)≤l.length:=by
  have:=Int.emod_nonneg n (show(l.length:Int)+1≠0 by omega)
  have:=Int.emod_lt_of_pos n (show 0<(l.length:Int)+1 by omega)
  omega
 have hlt:∀k,(l.take k).length≤9223372036854775807:=fun k=>by rw[List.length_take];omega
 have hat:∀k,qde s (l.take k)=0:=fun k=>qL4 k hall
 have hft:∀k,k≤l.length→qk9 s (l.take k)=qcv s l k:=fun k hk=>by
  unfold qk9
  rw[if_pos (hat k),List.length_take,Nat.min_eq_left hk,qKq (Nat.le_refl k)]
 have a2:=qwI s hg.z hg.d h100 (l.take (n%((l.length:Int)+1)).toNat) (hlt _)
 rw[hat,hft _ (by omega)]at a2
 have e2:qk9 s l=qcv s l l.length:=if_pos hall
 rw[hall,e2]at a1
 have hvz:∀(k:Nat) (m:List Cut) (at':Nat) (r c:Int),qde s m=0→qcv s m m.length=some (at',r,c)→m.length≤9223372036854775807→Contract Tryz.prog 72 [.agg (encSite s),.sl (m.map encCut),.agg [.int .i64 at',.int .i64 c,.int .i64 r]] (.ret (.int .i64 0)):=fun k m at' r c hm hv hml=>by
  have:=qtG s hg.z hg.d h100 m hml at' c r
  have e:qIn s m at' c r=0:=by unfold qIn;rw[if_neg (not_not_intro hm),if_pos ⟨at',r,c,hv,rfl,rfl,rfl⟩]
  rw[e]at this
  exact this
 cases hv:qcv s l l.length with
 |none=>
  have e3:qcv s l (n%((l.length:Int)+1)).toNat=none:=qhn fun j hj=>qKW hv j (by omega)
  rw[hv]at a1
  rw[e3]at a2
  refine zT mix Tryz.func14 Tryz.ntmps14 Tryz.results14 rfl rfl rfl ?_;simp only[qac,Nat.reduceAdd]
  repeat'(first|((with_reducible apply(qba 10 [[7,8],[8],[]]));decide +kernel;rfl)|(with_reducible apply qa1)|(with_reducible apply qax)|(with_reducible apply qav)|(with_reducible apply qb1)|(with_reducible apply qaF)|(with_reducible apply qc4)|(with_reducible apply qay)|((with_reducible apply qbn);rfl;(intro id'))|((with_reducible apply qa2);rfl)|(with_reducible rfl)|refine zS ?_|refine zA ?_|refine zF h0 ?_|refine zF h2 ?_|refine zF a1 ?_|refine zF a2 ?_|(refine zC ?_ ?_<;>first|intro h|simp)|(refine zG ?_ ?_<;>first|intro h|simp)|refine zE ?_|fail)
  all_goals first|rfl|(exfalso;omega)|(exfalso;simp at *;done)|trace_state
 |some v=>
  obtain⟨at',r,c⟩:=v
  obtain⟨b1,b2,b3⟩:=qK0 hv
  rw[hv]at a1
  have a4:=hvz 0 l at' r c hall hv hl
  by_cases hk:n%((l.length:Int)+1)≤(at':Int)
  ·have e3:qcv s l (n%((l.length:Int)+1)).toNat=none:=qhn fun j hj=>b2 j (by omega)
   rw[e3]at a2
   have a3:Contract Tryz.prog 58 [.agg (encSite s),.sl ((l.take ((at':Int)).toNat).map encCut)] (.ret (.int .i64 0)):=by
    rw[Int.toNat_natCast]
    have:=qlb s hg.z hg.d h100 (l.take at') (hlt _)
    have e:qjs s (l.take at')=0:=by
     unfold qjs
     rw[if_neg (not_not_intro (hat at')),List.length_take,Nat.min_eq_left (by omega),qKq (Nat.le_refl _),qhn b2]
     rfl
    rw[e]at this
    exact this
   refine zT mix Tryz.func14 Tryz.ntmps14 Tryz.results14 rfl rfl rfl ?_;simp only[qac,Nat.reduceAdd]
   repeat'(first|((with_reducible apply(qba 10 [[7,8],[8],[]]));decide +kernel;rfl)|(with_reducible apply qa1)|(with_reducible apply qax)|(with_reducible apply qav)|(with_reducible apply qb1)|(with_reducible apply qaF)|(with_reducible apply qc4)|(with_reducible apply qay)|((with_reducible apply qbn);rfl;(intro id'))|((with_reducible apply qa2);rfl)|(with_reducible rfl)|refine zS ?_|refine zA ?_|refine zF h0 ?_|refine zF h2 ?_|refine zF a1 ?_|refine zF a2 ?_|refine zF a3 ?_|refine zF a4 ?_|(refine zC ?_ ?_<;>first|intro h|simp)|(refine zG ?_ ?_<;>first|intro h|simp)|refine zE ?_|fail)
   all_goals first|rfl|(exfalso;omega)|(exfalso;simp at *;done)|trace_state
  ·have e3:qcv s l (n%((l.length:Int)+1)).toNat=some (at',r,c):=qk8 b2 b3 (by omega)
   have a3:=hvz 0 (l.take (n%((l.length:Int)+1)).toNat) at' r c (hat _) (by rw[List.length_take,Nat.min_eq_left (by omega),qKq (Nat.le_refl _)];exact e3) (hlt _)
   rw[e3]at a2
   refine zT mix Tryz.func14 Tryz.ntmps14 Tryz.results14 rfl rfl rfl ?_;simp only[qac,Nat.reduceAdd]
   repeat'(first|((with_reducible apply(qba 10 [[7,8],[8],[]]));decide +kernel;rfl)|(with_reducible apply qa1)|(with_reducible apply qax)|(with_reducible apply qav)|(with_reducible apply qb1)|(with_reducible apply qaF)|(with_reducible apply qc4)|(with_reducible apply qay)|((with_reducible apply qbn);rfl;(intro id'))|((with_reducible apply qa2);rfl)|(with_reducible rfl)|refine zS ?_|refine zA ?_|refine zF h0 ?_|refine zF h2 ?_|refine zF a1 ?_|refine zF a2 ?_|refine zF a3 ?_|(refine zC ?_ ?_<;>first|intro h|simp)|(refine zG ?_ ?_<;>first|intro h|simp)|refine zE ?_|fail)
   all_goals first|rfl|(simp;done)|(exfalso;omega)|(exfalso;simp at *;done)|trace_state
end Go.Pv.Soil

import Derived.Test.YtfklpkgdobdbpaaGreatCBZ
/- Part of the proofs over YtfklpkgdobdbpaaGreat: N72, N86. -/
set_option linter.unusedVariables false
set_option linter.unusedSimpArgs false
set_option linter.unnecessarySimpa false
open Go Go.Proofs Go.Pv
set_option maxHeartbeats 8000000
set_option maxRecDepth 100000
set_option linter.unusedSimpArgs false
set_option linter.unusedVariables false
namespace Go.Pv.Soil
instance qML:TInt Tryz.prog 5 .u8:=⟨by kernel_rfl⟩
theorem qLL{l:List Soil}(h:8<l.length):qdS l=8:=by unfold qdS;rw[if_neg (by omega),if_pos h]
theorem qMn(l:List Soil)(hl:l.length≤9223372036854775807)(h:8<l.length):Contract Tryz.prog 162 [.sl (l.map qaC)] (.ret (.int .i64 8)):=by
 refine zT mix Tryz.func162 Tryz.ntmps162 Tryz.results162 rfl rfl rfl ?_;simp only[qac,Nat.reduceAdd]
 repeat'(first|(with_reducible rfl)|refine zQ ?_|(refine zC ?_ ?_<;>first|intro h|simp)|refine zE ?_|fail)
 all_goals first|rfl|(exfalso;omega)|trace_state
theorem qL1(g:Ground)(hl:g.soils.length≤9223372036854775807)(hb:g.borings.length≤9223372036854775807)(h:¬(g.soils.length<1000000000000∧g.borings.length<1000000000000)):qaI g≠0∧Contract Tryz.prog 88 [.agg (qam g)] (.ret (.int .i64 (qaI g))):=by
 by_cases h1:8<g.soils.length
 ·have e:qaI g=8:=by unfold qaI;rw[qLL h1,if_pos (by decide)]
  have h2:=qMn g.soils hl h1
  rw[e]
  refine⟨by decide,?_⟩
  refine zT mix Tryz.func88 Tryz.ntmps88 Tryz.results88 rfl rfl rfl ?_;simp only[qac,Nat.reduceAdd]
  repeat'(first|(with_reducible rfl)|refine zQ ?_|refine zF h2 ?_|refine zE ?_|fail)
  all_goals first|rfl|(exfalso;omega)|trace_state
 ·have h2:=c20 g.soils (by omega)
  by_cases h3:qdS g.soils=0
  ·have e:qaI g=8:=by unfold qaI;rw[if_neg (not_not_intro h3),if_neg (by omega),if_pos (by omega)]
   rw[e]
   rw[h3]at h2
   refine⟨by decide,?_⟩
   refine zT mix Tryz.func88 Tryz.ntmps88 Tryz.results88 rfl rfl rfl ?_;simp only[qac,Nat.reduceAdd]
   repeat'(first|(with_reducible rfl)|refine zQ ?_|refine zF h2 ?_|(refine zC ?_ ?_<;>first|intro h|simp)|refine zE ?_|fail)
   all_goals first|rfl|(exfalso;omega)|trace_state
  ·have e:qaI g=qdS g.soils:=by unfold qaI;rw[if_pos h3]
   rw[e]
   refine⟨h3,?_⟩
   generalize qdS g.soils=q at*
   refine zT mix Tryz.func88 Tryz.ntmps88 Tryz.results88 rfl rfl rfl ?_;simp only[qac,Nat.reduceAdd]
   repeat'(first|(with_reducible rfl)|refine zQ ?_|refine zF h2 ?_|(refine zC ?_ ?_<;>first|intro h|simp)|refine zE ?_|fail)
   all_goals first|rfl|(exfalso;omega)|trace_state
structure FitS(s:Site):Prop where
 z:Sized s
 d:s.dreds.length<1000000000000
theorem qMo(s:Site)(e:Int)(h:Contract Tryz.prog 88 [.agg (qam s.ground)] (.ret (.int .i64 e))):Contract Tryz.prog 87 [.ptr (encSite s)] (.ret (.int .i64 e)):=by
 refine zT mix Tryz.func87 Tryz.ntmps87 Tryz.results87 rfl rfl rfl ?_;simp only[qac,Nat.reduceAdd]
 repeat'(first|(with_reducible rfl)|refine zQ ?_|refine zF h ?_|refine zE ?_|fail)
theorem qMp(s:Site)(h:s.bed.levels.length<1000000000000):Contract Tryz.prog 85 [.ptr (encSite s)] (.ret (.int .i64 (qa8 s.bed))):=by
 have h1:=qCT s.bed h
 refine zT mix Tryz.func85 Tryz.ntmps85 Tryz.results85 rfl rfl rfl ?_;simp only[qac,Nat.reduceAdd]
 repeat'(first|(with_reducible rfl)|refine zQ ?_|refine zF h1 ?_|refine zE ?_|fail)
theorem qMj(s:Site)(hw:Wide s)(h100:s.bed.levels.length≤100)(h:¬FitS s):qfn s≠0∧Contract Tryz.prog 24 [.agg (encSite s)] (.ret (.int .i64 (qfn s))):=by
 by_cases hg:s.ground.soils.length<1000000000000∧s.ground.borings.length<1000000000000
 ·have hz:Sized s:=⟨by omega,hg.1,hg.2,hw.zo,hw.qu,hw.ga,hw.ma,hw.dr,hw.ou⟩
  refine⟨?_,qhh s hz⟩
  intro h0
  rw[qhX]at h0
  split at h0
  ·contradiction
  split at h0
  ·contradiction
  split at h0
  ·contradiction
  split at h0
  ·contradiction
  split at h0
  ·contradiction
  rw[←qrq (s:=s.ground.soils) (l:=s.dreds) (by
   rcases Nat.lt_or_ge s.dreds.length 1000000000000 with h'|h'
   ·exact absurd ⟨hz,h'⟩ h
   ·omega)]at h0
  exact absurd h0 (by decide)
 have h1:=qMp s (by omega)
 obtain⟨hne,hG⟩:=qL1 s.ground hw.so hw.bo hg
 have h2:=qMo s _ hG
 have e:qfn s≠0∧(qfn s=if qa8 s.bed≠0 then qa8 s.bed else qaI s.ground):=by
  rw[qhX]
  by_cases hb:qa8 s.bed=0
  ·rw[if_neg (not_not_intro hb),if_pos hne,if_neg (not_not_intro hb)];exact⟨hne,rfl⟩
  ·rw[if_pos hb,if_pos hb];exact⟨hb,rfl⟩
 refine⟨e.1,?_⟩
 rw[e.2]
 generalize qa8 s.bed=e1 at*
 generalize qaI s.ground=e2 at*
 refine zT mix Tryz.func24 Tryz.ntmps24 Tryz.results24 rfl rfl rfl ?_;simp only[qac,Nat.reduceAdd]
 repeat'(first|((with_reducible apply qs7);rfl;rfl;rfl;rfl;rfl;rfl;rfl;rfl)|refine zS ?_|refine zA ?_|fail)
 refine qaf 6 (fun i=>⟨[(16,.int .i64 i),(15,.int .i64 6),(14,.os 1 0 6)],[(1,⟨1,false,[[.clo (.func 85) [] [.op 0 0 0]],[.clo (.func 87) [] [.op 0 0 0]],[.clo (.func 89) [] [.op 0 0 0]],[.clo (.func 91) [] [.op 0 0 0]],[.clo (.func 93) [] [.op 0 0 0]],[.clo (.func 95) [] [.op 0 0 0]]]⟩),(0,⟨12,true,[encSite s]⟩)],64,26⟩)
  (fun i=>(0<i→e1=0)∧i≤1) (qaa (nx:=64) (k:=0) (ns:=[]) (ks:=[16,15,14]) [(256,1),(0,0)] rfl (by simp) (by kernel_rfl)) (by omega) ?_
 intro i hi hC
 match i,hi,hC with
 |0,_,hC=>
  repeat'(first|((with_reducible apply qdn);rfl;rfl;(exact h1);rfl)|refine zQ ?_|(refine zC ?_ ?_<;>first|intro h|simp)|refine zE ?_|fail)
  all_goals first
   |(simp[*];done)
   |exact⟨by omega,⟨fun _=>by omega,by omega⟩,qaa (nx:=64) (k:=0) (ns:=[]) (ks:=[16,15,14]) [(1,1),(0,0)] rfl (by simp) (by kernel_rfl)⟩
   |(exfalso;simp at *;done)
   |trace_state
 |1,_,hC=>
  obtain rfl:e1=0:=hC.1 (by omega)
  repeat'(first|((with_reducible apply qdn);rfl;rfl;(exact h2);rfl)|refine zQ ?_|(refine zC ?_ ?_<;>first|intro h|simp)|refine zE ?_|fail)
  all_goals first
   |(simp[*];done)
   |(exfalso;omega)
   |(exfalso;simp at *;done)
   |trace_state
 |i+2,_,hC=>exact absurd hC.2 (by omega)
theorem qKI(s:Site)(hw:Wide s)(h100:s.bed.levels.length≤100)(h:¬FitS s)(l:List Cut)(hl:l.length≤9223372036854775807):qde s l≠0∧Contract Tryz.prog 26 [.agg (encSite s),.sl (l.map encCut)] (.ret (.int .i64 (qde s l))):=by
 obtain⟨hne,h1⟩:=qMj s hw h100 h
 have e:qde s l=qfn s:=by unfold qde;rw[if_pos hne]
 rw[e]
 refine⟨hne,?_⟩
 generalize qfn s=q at*
 refine zT mix Tryz.func26 Tryz.ntmps26 Tryz.results26 rfl rfl rfl ?_;simp only[qac,Nat.reduceAdd]
 repeat'(first|(with_reducible rfl)|refine zQ ?_|refine zF h1 ?_|(refine zC ?_ ?_<;>first|intro h|simp)|refine zE ?_|fail)
 all_goals first|rfl|(exfalso;omega)|trace_state
theorem qMq(s:Site)(hw:Wide s)(h100:s.bed.levels.length≤100)(h:¬FitS s)(l:List Cut)(hl:l.length≤9223372036854775807):∃e:Int,e≠0∧Contract Tryz.prog 69 [.agg (encSite s),.sl (l.map encCut)] (.ret (.tup [.agg [.int .i64 0,.int .i64 0,.int .i64 0],.bool false,.int .i64 e])):=by
 obtain⟨hne,h1⟩:=qKI s hw h100 h l hl
 refine⟨_,hne,?_⟩
 generalize qde s l=q at*
 refine zT mix Tryz.func69 Tryz.ntmps69 Tryz.results69 rfl rfl rfl ?_;simp only[qac,Nat.reduceAdd]
 repeat'(first|refine zQ ?_|refine zF h1 ?_|(refine zC ?_ ?_<;>first|intro h|simp)|refine zE ?_|fail)
 all_goals first|rfl|(exfalso;omega)|trace_state
theorem qLd{s:Site}{l:List Cut}(h:qde s l=0){i:Nat}(hi:i<l.length):qde s [l[i]]=0:=by
 have h1:=(qd4 h).2
 unfold qde at h ⊢
 split at h
 ·contradiction
 rename_i h0
 rw[if_neg h0]
 unfold qlp at h1 ⊢
 split at h1
 ·cases h1
 obtain⟨h2,h3⟩:=qhN h1 hi
 rw[if_neg (by simp)]
 refine qaB fun j hj=>?_
 obtain rfl:j=0:=by simpa using hj
 simp[qce,h2,h3]
theorem qK5{s:Site}{b:Grid}{c:Cut}(h:qde s [c]=0)(hb:OkBed s b):onE s b c=0:=by
 unfold onE
 rw[if_neg (not_not_intro h),if_neg (not_not_intro hb.er),if_pos hb.al]
theorem qMa(l:List Soil)(hl:l.length≤9223372036854775807)(h:8<l.length):Contract Tryz.prog 174 [.sl (l.map qaC)] (.ret (.int .i64 8)):=by
 refine zT mix Tryz.func174 Tryz.ntmps174 Tryz.results174 rfl rfl rfl ?_;simp only[qac,Nat.reduceAdd]
 repeat'(first|(with_reducible rfl)|refine zQ ?_|(refine zC ?_ ?_<;>first|intro h|simp)|refine zE ?_|fail)
 all_goals first|rfl|(exfalso;omega)|trace_state
theorem qLS(g:Ground)(hl:g.soils.length≤9223372036854775807)(hb:g.borings.length≤9223372036854775807)(h:¬(g.soils.length<1000000000000∧g.borings.length<1000000000000)):∃e:Int,e≠0∧Contract Tryz.prog 98 [.agg (qam g)] (.ret (.int .i64 e)):=by
 by_cases h1:8<g.soils.length
 ·have h2:=qMa g.soils hl h1
  refine⟨8,by decide,?_⟩
  refine zT mix Tryz.func98 Tryz.ntmps98 Tryz.results98 rfl rfl rfl ?_;simp only[qac,Nat.reduceAdd]
  repeat'(first|(with_reducible rfl)|refine zQ ?_|refine zF h2 ?_|refine zE ?_|fail)
  all_goals first|rfl|(exfalso;omega)|trace_state
 ·have h2:=c21 g.soils (by omega)
  by_cases h3:qdS g.soils=0
  ·rw[h3]at h2
   refine⟨8,by decide,?_⟩
   refine zT mix Tryz.func98 Tryz.ntmps98 Tryz.results98 rfl rfl rfl ?_;simp only[qac,Nat.reduceAdd]
   repeat'(first|(with_reducible rfl)|refine zQ ?_|refine zF h2 ?_|(refine zC ?_ ?_<;>first|intro h|simp)|refine zE ?_|fail)
   all_goals first|rfl|(exfalso;omega)|trace_state
  ·refine⟨_,h3,?_⟩
   generalize qdS g.soils=q at*
   refine zT mix Tryz.func98 Tryz.ntmps98 Tryz.results98 rfl rfl rfl ?_;simp only[qac,Nat.reduceAdd]
   repeat'(first|(with_reducible rfl)|refine zQ ?_|refine zF h2 ?_|(refine zC ?_ ?_<;>first|intro h|simp)|refine zE ?_|fail)
   all_goals first|rfl|(exfalso;omega)|trace_state
theorem qLe(s:Site)(hw:Wide s)(h100:s.bed.levels.length≤100)(h:¬FitS s)(l:List Cut)(hl:l.length≤9223372036854775807):∃e:Int,e≠0∧Contract Tryz.prog 27 [.agg (encSite s),.sl (l.map encCut)] (.ret (.int .i64 e)):=by
 have key:∃e:Int,e≠0∧Contract Tryz.prog 25 [.agg (encSite s)] (.ret (.int .i64 e)):=by
  by_cases hg:s.ground.soils.length<1000000000000∧s.ground.borings.length<1000000000000
  ·have hz:Sized s:=⟨by omega,hg.1,hg.2,hw.zo,hw.qu,hw.ga,hw.ma,hw.dr,hw.ou⟩
   exact⟨_,(qMj s hw h100 h).1,qkN s hz⟩
  ·have h1:=c28 s.bed (by omega)
   obtain⟨e,he,h2⟩:=qLS s.ground hw.so hw.bo hg
   by_cases hb:qa8 s.bed=0
   ·rw[hb]at h1
    refine⟨e,he,?_⟩
    refine zT mix Tryz.func25 Tryz.ntmps25 Tryz.results25 rfl rfl rfl ?_;simp only[qac,Nat.reduceAdd]
    repeat'(first|(with_reducible rfl)|refine zQ ?_|refine zF h1 ?_|refine zF h2 ?_|(refine zC ?_ ?_<;>first|intro h|simp)|refine zE ?_|fail)
    all_goals first|rfl|(exfalso;omega)|(exfalso;simp at *;done)|trace_state
   ·refine⟨_,hb,?_⟩
    generalize qa8 s.bed=q at*
    refine zT mix Tryz.func25 Tryz.ntmps25 Tryz.results25 rfl rfl rfl ?_;simp only[qac,Nat.reduceAdd]
    repeat'(first|(with_reducible rfl)|refine zQ ?_|refine zF h1 ?_|(refine zC ?_ ?_<;>first|intro h|simp)|refine zE ?_|fail)
    all_goals first|rfl|(exfalso;omega)|trace_state
 obtain⟨e,he,h1⟩:=key
 refine⟨e,he,?_⟩
 refine zT mix Tryz.func27 Tryz.ntmps27 Tryz.results27 rfl rfl rfl ?_;simp only[qac,Nat.reduceAdd]
 repeat'(first|(with_reducible rfl)|refine zQ ?_|refine zF h1 ?_|(refine zC ?_ ?_<;>first|intro h|simp)|refine zE ?_|fail)
 all_goals first|rfl|(exfalso;omega)|trace_state
end Go.Pv.Soil

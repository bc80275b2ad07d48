import Derived.Test.YtfklpkgdobdbpaaGreatCBX
/- Part of the proofs over YtfklpkgdobdbpaaGreat: N78, N72, N86, N58. -/
set_option linter.unusedVariables false
set_option linter.unusedSimpArgs false
set_option linter.unnecessarySimpa false
open Go Go.Proofs Go.Pv
set_option maxHeartbeats 8000000
set_option maxRecDepth 100000
set_option linter.unusedSimpArgs false
set_option linter.unusedVariables false
namespace Go.Pv.Soil
theorem qdO{p:Nat→Bool}{r:Int}{l:List Nat}:findR p r l=none↔∀i∈l,p i=false:=by
 unfold findR
 rw[Option.map_eq_none_iff,List.find?_eq_none]
 exact⟨fun h i hi=>by simpa using h i hi,fun h i hi=>by rw[h i hi];simp⟩
theorem qvw{e:Nat→Int}{l:List Nat}:qeR e l=none↔∀i∈l,e i=0:=by
 unfold qeR
 rw[Option.map_eq_none_iff,List.find?_eq_none]
 exact⟨fun h i hi=>by simpa using h i hi,fun h i hi=>by rw[h i hi];simp⟩
theorem ql9{low:List Nat}{l:List Steep}:qgB low l=none↔∀x∈l,qp7 low x=false:=by
 unfold qgB
 rw[Option.map_eq_none_iff,List.find?_eq_none]
 exact⟨fun h i hi=>by simpa using h i hi,fun h i hi=>by rw[h i hi];simp⟩
structure Passes(s:Site)(b:Grid)(c:Cut):Prop where
 form:qms (dredOf s c.dredger) c=true
 unk:∀i∈qaD s c,qAi b i=false
 guard:∀i∈qaD s c,qd2 s i=false
 deep:∀i∈qbB s b c,qp3 b c (dredOf s c.dredger) i=false
 lack:∀i∈qbB s b c,qmt s b c i=false
 time:c.start+(qcq s b c).1-c.start≤3000∧c.start+(qcq s b c).1≤1000001
 reach:∀i∈qbB s b c,qca s c (qqF s b c) i=0
 quay:∀i∈qbB s b c,qlQ s c i=false
 steep:∀x∈qbI s.ground (qcu s b c) (qcu s b c).levels.length,qp7 (qbB s b c) x=false
theorem qtR{p:Prop}[Decidable p]{x:Int×Int}:(if p then(none:Option (Int×Int))else some x)=none↔p:=by
 constructor
 ·intro h
  split at h
  ·assumption
  ·cases h
 ·intro h;exact if_pos h
theorem qtS{s:Site}{b:Grid}{c:Cut}:qfg s b c=none↔Passes s b c:=by
 unfold qfg qed qeL
 rw[qcI,qcI,qcI,qcI,qcI,qcI,qcI,qcI,qtR,qtR,qdO,qdO,qdO,qdO,qvw,qdO,ql9]
 exact⟨fun⟨⟨h1,h2,h3,h4,h5,h6⟩,h7,h8,h9⟩=>⟨h1,h2,h3,h4,h5,h6,h7,h8,h9⟩,fun h=>⟨⟨h.1,h.2,h.3,h.4,h.5,h.6⟩,h.7,h.8,h.9⟩⟩
theorem qff{s:Site}{b:Grid}{c:Cut}{i:Nat}:i∈qbB s b c↔i∈qaD s c∧lv b.levels i≠30000∧c.level<lv b.levels i:=by
 unfold qbB qnf
 rw[List.mem_filter,decide_eq_true_eq]
theorem qoE{s:Site}{b:Grid}{c:Cut}{i:Nat}(h:i∈qbB s b c)(hi:i<b.levels.length):lv (qcu s b c).levels i=c.level:=by
 obtain⟨h1,h2,h3⟩:=qff.1 h
 show lv (qfq b.levels (qaD s c) c.level) i=c.level
 rw[qcM hi,if_pos ⟨h1,h2⟩];omega
theorem qrN{s:Site}{b:Grid}{c:Cut}{i:Nat}(h:i∉qbB s b c)(hi:i<b.levels.length):lv (qcu s b c).levels i=lv b.levels i:=by
 show lv (qfq b.levels (qaD s c) c.level) i=lv b.levels i
 rw[qcM hi]
 split
 ·rename_i h'
  rw[qff]at h
  have:¬c.level<lv b.levels i:=fun h3=>h ⟨h'.1,h'.2,h3⟩
  omega
 ·rfl
instance qKB:TInt Tryz.prog 5 .u8:=⟨by kernel_rfl⟩
theorem qyY{l:List Soil}(h:8<l.length):qcG l=8:=by unfold qcG;rw[if_neg (by omega),if_pos h]
theorem qDR(l:List Soil)(hl:l.length≤9223372036854775807)(h:8<l.length):Contract Tryz.prog 162 [.sl (l.map qaG)] (.ret (.int .i64 8)):=by
 refine zT mix Tryz.func162 Tryz.ntmps162 Tryz.results162 rfl rfl rfl ?_;simp only[qab,Nat.reduceAdd]
 repeat'(first|(with_reducible rfl)|refine zQ ?_|(refine zC ?_ ?_<;>first|intro h|simp)|refine zE ?_|fail)
 all_goals first|rfl|(exfalso;omega)|trace_state
theorem qAR(g:Ground)(hl:g.soils.length≤9223372036854775807)(hb:g.borings.length≤9223372036854775807)(h:¬(g.soils.length<1000000000000∧g.borings.length<1000000000000)):qaB g≠0∧Contract Tryz.prog 88 [.agg (qam g)] (.ret (.int .i64 (qaB g))):=by
 by_cases h1:8<g.soils.length
 ·have e:qaB g=8:=by unfold qaB;rw[qyY h1,if_pos (by decide)]
  have h2:=qDR g.soils hl h1
  rw[e]
  refine⟨by decide,?_⟩
  refine zT mix Tryz.func88 Tryz.ntmps88 Tryz.results88 rfl rfl rfl ?_;simp only[qab,Nat.reduceAdd]
  repeat'(first|(with_reducible rfl)|refine zQ ?_|refine zF h2 ?_|refine zE ?_|fail)
  all_goals first|rfl|(exfalso;omega)|trace_state
 ·have h2:=c20 g.soils (by omega)
  by_cases h3:qcG g.soils=0
  ·have e:qaB g=8:=by unfold qaB;rw[if_neg (not_not_intro h3),if_neg (by omega),if_pos (by omega)]
   rw[e]
   rw[h3]at h2
   refine⟨by decide,?_⟩
   refine zT mix Tryz.func88 Tryz.ntmps88 Tryz.results88 rfl rfl rfl ?_;simp only[qab,Nat.reduceAdd]
   repeat'(first|(with_reducible rfl)|refine zQ ?_|refine zF h2 ?_|(refine zC ?_ ?_<;>first|intro h|simp)|refine zE ?_|fail)
   all_goals first|rfl|(exfalso;omega)|trace_state
  ·have e:qaB g=qcG g.soils:=by unfold qaB;rw[if_pos h3]
   rw[e]
   refine⟨h3,?_⟩
   generalize qcG g.soils=q at*
   refine zT mix Tryz.func88 Tryz.ntmps88 Tryz.results88 rfl rfl rfl ?_;simp only[qab,Nat.reduceAdd]
   repeat'(first|(with_reducible rfl)|refine zQ ?_|refine zF h2 ?_|(refine zC ?_ ?_<;>first|intro h|simp)|refine zE ?_|fail)
   all_goals first|rfl|(exfalso;omega)|trace_state
structure FitS(s:Site):Prop where
 z:Sized s
 d:s.dreds.length<1000000000000
theorem qDS(s:Site)(e:Int)(h:Contract Tryz.prog 88 [.agg (qam s.ground)] (.ret (.int .i64 e))):Contract Tryz.prog 87 [.ptr (encSite s)] (.ret (.int .i64 e)):=by
 refine zT mix Tryz.func87 Tryz.ntmps87 Tryz.results87 rfl rfl rfl ?_;simp only[qab,Nat.reduceAdd]
 repeat'(first|(with_reducible rfl)|refine zQ ?_|refine zF h ?_|refine zE ?_|fail)
theorem qDT(s:Site)(h:s.bed.levels.length<1000000000000):Contract Tryz.prog 85 [.ptr (encSite s)] (.ret (.int .i64 (qa2 s.bed))):=by
 have h1:=qD6 s.bed h
 refine zT mix Tryz.func85 Tryz.ntmps85 Tryz.results85 rfl rfl rfl ?_;simp only[qab,Nat.reduceAdd]
 repeat'(first|(with_reducible rfl)|refine zQ ?_|refine zF h1 ?_|refine zE ?_|fail)
theorem qFT(s:Site)(hw:Wide s)(h100:s.bed.levels.length≤100)(h:¬FitS s):qda s≠0∧Contract Tryz.prog 24 [.agg (encSite s)] (.ret (.int .i64 (qda s))):=by
 by_cases hg:s.ground.soils.length<1000000000000∧s.ground.borings.length<1000000000000
 ·have hz:Sized s:=⟨by omega,hg.1,hg.2,hw.zo,hw.qu,hw.ga,hw.ma,hw.dr,hw.ou⟩
  refine⟨?_,qfR s hz⟩
  intro h0
  rw[qfQ]at h0
  split at h0
  ·contradiction
  split at h0
  ·contradiction
  split at h0
  ·contradiction
  split at h0
  ·contradiction
  split at h0
  ·contradiction
  rw[←qod (s:=s.ground.soils) (l:=s.dreds) (by
   rcases Nat.lt_or_ge s.dreds.length 1000000000000 with h'|h'
   ·exact absurd ⟨hz,h'⟩ h
   ·omega)]at h0
  exact absurd h0 (by decide)
 have h1:=qDT s (by omega)
 obtain⟨hne,hG⟩:=qAR s.ground hw.so hw.bo hg
 have h2:=qDS s _ hG
 have e:qda s≠0∧(qda s=if qa2 s.bed≠0 then qa2 s.bed else qaB s.ground):=by
  rw[qfQ]
  by_cases hb:qa2 s.bed=0
  ·rw[if_neg (not_not_intro hb),if_pos hne,if_neg (not_not_intro hb)];exact⟨hne,rfl⟩
  ·rw[if_pos hb,if_pos hb];exact⟨hb,rfl⟩
 refine⟨e.1,?_⟩
 rw[e.2]
 generalize qa2 s.bed=e1 at*
 generalize qaB s.ground=e2 at*
 refine zT mix Tryz.func24 Tryz.ntmps24 Tryz.results24 rfl rfl rfl ?_;simp only[qab,Nat.reduceAdd]
 repeat'(first|((with_reducible apply qm4);rfl;rfl;rfl;rfl;rfl;rfl;rfl;rfl)|refine zS ?_|refine zA ?_|fail)
 refine qad 6 (fun i=>⟨[(16,.int .i64 i),(15,.int .i64 6),(14,.os 1 0 6)],[(1,⟨1,false,[[.clo (.func 85) [] [.op 0 0 0]],[.clo (.func 87) [] [.op 0 0 0]],[.clo (.func 89) [] [.op 0 0 0]],[.clo (.func 91) [] [.op 0 0 0]],[.clo (.func 93) [] [.op 0 0 0]],[.clo (.func 95) [] [.op 0 0 0]]]⟩),(0,⟨12,true,[encSite s]⟩)],64,26⟩)
  (fun i=>(0<i→e1=0)∧i≤1) (qaa (nx:=64) (k:=0) (ns:=[]) (ks:=[16,15,14]) [(256,1),(0,0)] rfl (by simp) (by kernel_rfl)) (by omega) ?_
 intro i hi hC
 match i,hi,hC with
 |0,_,hC=>
  repeat'(first|((with_reducible apply qcE);rfl;rfl;(exact h1);rfl)|refine zQ ?_|(refine zC ?_ ?_<;>first|intro h|simp)|refine zE ?_|fail)
  all_goals first
   |(simp[*];done)
   |exact⟨by omega,⟨fun _=>by omega,by omega⟩,qaa (nx:=64) (k:=0) (ns:=[]) (ks:=[16,15,14]) [(1,1),(0,0)] rfl (by simp) (by kernel_rfl)⟩
   |(exfalso;simp at *;done)
   |trace_state
 |1,_,hC=>
  obtain rfl:e1=0:=hC.1 (by omega)
  repeat'(first|((with_reducible apply qcE);rfl;rfl;(exact h2);rfl)|refine zQ ?_|(refine zC ?_ ?_<;>first|intro h|simp)|refine zE ?_|fail)
  all_goals first
   |(simp[*];done)
   |(exfalso;omega)
   |(exfalso;simp at *;done)
   |trace_state
 |i+2,_,hC=>exact absurd hC.2 (by omega)
theorem qIn{s:Site}{l:List Cut}(h:qcy s l=0){i:Nat}(hi:i<l.length):qcy s [l[i]]=0:=by
 have h1:=(qcw h).2
 unfold qcy at h ⊢
 split at h
 ·contradiction
 rename_i h0
 rw[if_neg h0]
 unfold qls at h1 ⊢
 split at h1
 ·cases h1
 obtain⟨h2,h3⟩:=qgt h1 hi
 rw[if_neg (by simp)]
 refine qaC fun j hj=>?_
 obtain rfl:j=0:=by simpa using hj
 simp[qcf,h2,h3]
theorem qIo{s:Site}{b:Grid}{c:Cut}(h:qcy s [c]=0)(hb:OkBed s b):onE s b c=0:=by
 unfold onE
 rw[if_neg (not_not_intro h),if_neg (not_not_intro hb.er),if_pos hb.al]
theorem qAS(l:List Soil)(hl:l.length≤9223372036854775807)(h:8<l.length):Contract Tryz.prog 174 [.sl (l.map qaG)] (.ret (.int .i64 8)):=by
 refine zT mix Tryz.func174 Tryz.ntmps174 Tryz.results174 rfl rfl rfl ?_;simp only[qab,Nat.reduceAdd]
 repeat'(first|(with_reducible rfl)|refine zQ ?_|(refine zC ?_ ?_<;>first|intro h|simp)|refine zE ?_|fail)
 all_goals first|rfl|(exfalso;omega)|trace_state
theorem qyZ(g:Ground)(hl:g.soils.length≤9223372036854775807)(hb:g.borings.length≤9223372036854775807)(h:¬(g.soils.length<1000000000000∧g.borings.length<1000000000000)):∃e:Int,e≠0∧Contract Tryz.prog 98 [.agg (qam g)] (.ret (.int .i64 e)):=by
 by_cases h1:8<g.soils.length
 ·have h2:=qAS g.soils hl h1
  refine⟨8,by decide,?_⟩
  refine zT mix Tryz.func98 Tryz.ntmps98 Tryz.results98 rfl rfl rfl ?_;simp only[qab,Nat.reduceAdd]
  repeat'(first|(with_reducible rfl)|refine zQ ?_|refine zF h2 ?_|refine zE ?_|fail)
  all_goals first|rfl|(exfalso;omega)|trace_state
 ·have h2:=c21 g.soils (by omega)
  by_cases h3:qcG g.soils=0
  ·rw[h3]at h2
   refine⟨8,by decide,?_⟩
   refine zT mix Tryz.func98 Tryz.ntmps98 Tryz.results98 rfl rfl rfl ?_;simp only[qab,Nat.reduceAdd]
   repeat'(first|(with_reducible rfl)|refine zQ ?_|refine zF h2 ?_|(refine zC ?_ ?_<;>first|intro h|simp)|refine zE ?_|fail)
   all_goals first|rfl|(exfalso;omega)|trace_state
  ·refine⟨_,h3,?_⟩
   generalize qcG g.soils=q at*
   refine zT mix Tryz.func98 Tryz.ntmps98 Tryz.results98 rfl rfl rfl ?_;simp only[qab,Nat.reduceAdd]
   repeat'(first|(with_reducible rfl)|refine zQ ?_|refine zF h2 ?_|(refine zC ?_ ?_<;>first|intro h|simp)|refine zE ?_|fail)
   all_goals first|rfl|(exfalso;omega)|trace_state
theorem qDU(s:Site)(hw:Wide s)(h100:s.bed.levels.length≤100)(h:¬FitS s)(l:List Cut)(hl:l.length≤9223372036854775807):∃e:Int,e≠0∧Contract Tryz.prog 27 [.agg (encSite s),.sl (l.map encCut)] (.ret (.int .i64 e)):=by
 have key:∃e:Int,e≠0∧Contract Tryz.prog 25 [.agg (encSite s)] (.ret (.int .i64 e)):=by
  by_cases hg:s.ground.soils.length<1000000000000∧s.ground.borings.length<1000000000000
  ·have hz:Sized s:=⟨by omega,hg.1,hg.2,hw.zo,hw.qu,hw.ga,hw.ma,hw.dr,hw.ou⟩
   exact⟨_,(qFT s hw h100 h).1,qhF s hz⟩
  ·have h1:=c28 s.bed (by omega)
   obtain⟨e,he,h2⟩:=qyZ s.ground hw.so hw.bo hg
   by_cases hb:qa2 s.bed=0
   ·rw[hb]at h1
    refine⟨e,he,?_⟩
    refine zT mix Tryz.func25 Tryz.ntmps25 Tryz.results25 rfl rfl rfl ?_;simp only[qab,Nat.reduceAdd]
    repeat'(first|(with_reducible rfl)|refine zQ ?_|refine zF h1 ?_|refine zF h2 ?_|(refine zC ?_ ?_<;>first|intro h|simp)|refine zE ?_|fail)
    all_goals first|rfl|(exfalso;omega)|(exfalso;simp at *;done)|trace_state
   ·refine⟨_,hb,?_⟩
    generalize qa2 s.bed=q at*
    refine zT mix Tryz.func25 Tryz.ntmps25 Tryz.results25 rfl rfl rfl ?_;simp only[qab,Nat.reduceAdd]
    repeat'(first|(with_reducible rfl)|refine zQ ?_|refine zF h1 ?_|(refine zC ?_ ?_<;>first|intro h|simp)|refine zE ?_|fail)
    all_goals first|rfl|(exfalso;omega)|trace_state
 obtain⟨e,he,h1⟩:=key
 refine⟨e,he,?_⟩
 refine zT mix Tryz.func27 Tryz.ntmps27 Tryz.results27 rfl rfl rfl ?_;simp only[qab,Nat.reduceAdd]
 repeat'(first|(with_reducible rfl)|refine zQ ?_|refine zF h1 ?_|(refine zC ?_ ?_<;>first|intro h|simp)|refine zE ?_|fail)
 all_goals first|rfl|(exfalso;omega)|trace_state
def qqG:Site:=⟨⟨0,0,1000,3,1,[-500,-500,-500]⟩,⟨[⟨"s".toUTF8,100,1,1,1⟩],[⟨"b".toUTF8,0,0,[⟨0, "s".toUTF8⟩]⟩]⟩,[],[],[⟨"g".toUTF8,0,0,[⟨0,0⟩,⟨100000,0⟩]⟩],[⟨"c".toUTF8,0,1000,3,1,200,0,[⟨"s".toUTF8,1000,0⟩]⟩]⟩
def qEd(v:Int):Cut:=⟨"a".toUTF8, "c".toUTF8,0,0,2,1,v,0⟩
theorem qtX:Sized qqG:=⟨by decide,by decide,by decide,by decide,by decide,by decide,by intro g hg;simp[qqG]at hg;subst hg;decide,by decide,by intro g hg;simp[qqG]at hg;subst hg;decide⟩
theorem qDV:Contract Tryz.prog 152 [] (.ret (.agg (encSite qqG))):=by
 refine zT mix Tryz.func152 Tryz.ntmps152 Tryz.results152 rfl rfl rfl ?_;simp only[qab,Nat.reduceAdd]
 exact qtt (fuel:=1000) (k:=20) mix (by kernel_rfl) rfl
theorem qBW:onE qqG qqG.bed (qEd (-600))=0∧onE qqG qqG.bed (qEd (-601))=0:=⟨by kernel_rfl,by kernel_rfl⟩
theorem qIp:qD8 qqG qqG.bed (qEd (-600))=none:=by kernel_rfl
theorem qIq:qD8 qqG qqG.bed (qEd (-601))=some (14,1):=by kernel_rfl
theorem qy0:Contract Tryz.prog 76 [] (.ret (.bool true)):=by
 have h0:=qDV
 have h1:=qlT qqG qtX (by decide) qqG.bed (by decide) (qEd (-600))
 have h2:=qlT qqG qtX (by decide) qqG.bed (by decide) (qEd (-601))
 have hc:=qIq
 rw[qIp,qBW.1]at h1
 rw[hc,qBW.2]at h2
 refine zT mix Tryz.func76 Tryz.ntmps76 Tryz.results76 rfl rfl rfl ?_;simp only[qab,Nat.reduceAdd]
 repeat'(first|((with_reducible apply qkc);rfl;rfl;rfl)|((with_reducible apply(qaS 10 [[7,8],[8],[]]));decide +kernel;rfl)|(with_reducible apply qaR)|(with_reducible apply qav)|(with_reducible apply qas)|(with_reducible apply qby)|(with_reducible apply qaA)|(with_reducible apply qcv)|(with_reducible apply qaw)|((with_reducible apply qa9);rfl;(intro id'))|((with_reducible apply qaT);rfl)|((with_reducible apply qwg);apply qy4;rfl;rfl;rfl)|((with_reducible apply quk);apply qy4;rfl;rfl;rfl)|(with_reducible rfl)|refine zS ?_|refine zA ?_|refine zF h0 ?_|refine zF h1 ?_|refine zF h2 ?_|(refine zI ?_;intro hlt)|(refine zC ?_ ?_<;>first|intro h|simp)|(refine zG ?_ ?_<;>first|intro h|simp)|((with_reducible apply qaz);rfl;rfl)|refine zE ?_|fail)
 all_goals rfl
end Go.Pv.Soil

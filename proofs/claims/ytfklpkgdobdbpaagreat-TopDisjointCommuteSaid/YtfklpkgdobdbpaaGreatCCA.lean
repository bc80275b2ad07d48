import Derived.Test.YtfklpkgdobdbpaaGreatCBZ
/- Part of the proofs over YtfklpkgdobdbpaaGreat: N66, N58. -/
set_option linter.unusedVariables false
set_option linter.unusedSimpArgs false
set_option linter.unnecessarySimpa false
open Go Go.Proofs Go.Pv
set_option maxHeartbeats 8000000
set_option maxRecDepth 100000
set_option linter.unusedSimpArgs false
set_option linter.unusedVariables false
namespace Go.Pv.Soil
theorem qtB(o:Option (Int×Int)):∃x y z,qts o=[.int .i64 x,.int .i64 y,.int .i64 z]:=by cases o<;>exact⟨_,_,_,rfl⟩
theorem law_refusals(s:Site)(hw:Wide s)(b:Grid)(hb:b.levels.length≤9223372036854775807)(c:Cut):Contract Tryz.prog 4 [.agg (encSite s),.agg (encGrid b),.agg (encCut c)] (.ret (.bool true)):=by
 have h0:=qqr
 have h1:=qnz s hw
 have h2:Contract Tryz.prog 21 [.sl [encCut c],.int .i64 1] (.ret (.bool (qxb [c] 1))):=qBO [c] (by simp) 1 (by omega)
 cases hs:qny s with
 |false=>
  rw[hs]at h1
  refine zT mix Tryz.func4 Tryz.ntmps4 Tryz.results4 rfl rfl rfl ?_;simp only[qac,Nat.reduceAdd]
  repeat'(first|(with_reducible rfl)|refine zQ ?_|refine zF h0 ?_|refine zF h1 ?_|refine zE ?_|fail)
  all_goals first|rfl|(exfalso;simp at *;done)|trace_state
 |true=>
  rw[hs]at h1
  obtain⟨hz,h16,hd8,_,_⟩:=qiT hw hs
  by_cases hb20:b.levels.length≤20
  rotate_left
  ·refine zT mix Tryz.func4 Tryz.ntmps4 Tryz.results4 rfl rfl rfl ?_;simp only[qac,Nat.reduceAdd]
   repeat'(first|(with_reducible rfl)|refine zQ ?_|refine zF h0 ?_|refine zF h1 ?_|(refine zG ?_ ?_<;>first|intro h|simp)|refine zE ?_|fail)
   all_goals first|rfl|(exfalso;omega)|(exfalso;simp at *;done)|trace_state
  cases hf:qxb [c] 1 with
  |false=>
   rw[hf]at h2
   refine zT mix Tryz.func4 Tryz.ntmps4 Tryz.results4 rfl rfl rfl ?_;simp only[qac,Nat.reduceAdd]
   repeat'(first|((with_reducible apply qad);(exact qbD rfl (by simp) rfl);(exact h2);rfl)|(with_reducible rfl)|refine zQ ?_|refine zF h0 ?_|refine zF h1 ?_|(refine zG ?_ ?_<;>first|intro h|simp)|refine zE ?_|fail)
   all_goals first|rfl|(exfalso;omega)|(exfalso;simp at *;done)|trace_state
  |true=>
   rw[hf]at h2
   have h3:=qwp s hz (by omega) b (by omega) c
   have h4:=qoH s hz (by omega) b (by omega) c
   by_cases hon:onE s b c=0
   rotate_left
   ·have e:qBt s b c=none:=by unfold qBt;rw[if_neg hon]
    rw[e]at h3
    generalize onE s b c=q at*
    refine zT mix Tryz.func4 Tryz.ntmps4 Tryz.results4 rfl rfl rfl ?_;simp only[qac,Nat.reduceAdd]
    repeat'(first|((with_reducible apply qad);(exact qbD rfl (by simp) rfl);(exact h2);rfl)|(with_reducible rfl)|refine zQ ?_|refine zF h0 ?_|refine zF h1 ?_|refine zF h3 ?_|refine zF h4 ?_|(refine zC ?_ ?_<;>first|intro h|simp)|(refine zG ?_ ?_<;>first|intro h|simp)|refine zE ?_|fail)
    all_goals first|rfl|(exfalso;omega)|(exfalso;simp at *;done)|trace_state
   have e:qBt s b c=qiO s b c:=by unfold qBt;rw[if_pos hon]
   obtain⟨_,ok,okc,okb⟩:=qk0 hon
   have h5:=qC8 s ok hz b okb (by omega) c okc
   have h6:=qwC s hz ok b okb (by omega) c okc
   rw[e,hon]at h3
   rw[hon]at h4
   generalize qiO s b c=o at*
   obtain⟨x,y,z,hv⟩:=qtB o
   rw[hv]at h3 h6
   generalize o.isSome=ob at*
   generalize qBh s b c=lb at*
   refine zT mix Tryz.func4 Tryz.ntmps4 Tryz.results4 rfl rfl rfl ?_;simp only[qac,Nat.reduceAdd]
   repeat'(first|((with_reducible apply qad);(exact qbD rfl (by simp) rfl);(exact h2);rfl)|(with_reducible rfl)|refine zQ ?_|refine zF h0 ?_|refine zF h1 ?_|refine zF h3 ?_|refine zF h4 ?_|refine zF h5 ?_|refine zF h6 ?_|(refine zC ?_ ?_<;>first|intro h|simp)|(refine zG ?_ ?_<;>first|intro h|simp)|((with_reducible apply qaG);rfl;rfl)|refine zE ?_|fail)
   all_goals first|rfl|(simp;done)|(exfalso;omega)|(exfalso;simp at *;done)|trace_state
def qLa:Site:=⟨⟨0,0,1000,3,1,[-500,-500,-500]⟩,⟨[⟨"s".toUTF8,100,1,1,1⟩],[⟨"b".toUTF8,0,0,[⟨0, "s".toUTF8⟩]⟩]⟩,[],[],[⟨"g".toUTF8,0,0,[⟨0,0⟩,⟨100000,0⟩]⟩],[⟨"c".toUTF8,0,1000,3,1,200,0,[⟨"s".toUTF8,1000,0⟩]⟩]⟩
def qMy(v:Int):Cut:=⟨"a".toUTF8, "c".toUTF8,0,0,2,1,v,0⟩
theorem qLs:Sized qLa:=⟨by decide,by decide,by decide,by decide,by decide,by decide,by intro g hg;simp[qLa]at hg;subst hg;decide,by decide,by intro g hg;simp[qLa]at hg;subst hg;decide⟩
theorem qMs:Contract Tryz.prog 152 [] (.ret (.agg (encSite qLa))):=by
 refine zT mix Tryz.func152 Tryz.ntmps152 Tryz.results152 rfl rfl rfl ?_;simp only[qac,Nat.reduceAdd]
 exact qyu (fuel:=1000) (k:=20) mix (by kernel_rfl) rfl
theorem qMl:onE qLa qLa.bed (qMy (-600))=0∧onE qLa qLa.bed (qMy (-601))=0:=⟨by kernel_rfl,by kernel_rfl⟩
theorem qMH:qBt qLa qLa.bed (qMy (-600))=none:=by kernel_rfl
theorem qMI:qBt qLa qLa.bed (qMy (-601))=some (14,1):=by kernel_rfl
theorem qK6:Contract Tryz.prog 76 [] (.ret (.bool true)):=by
 have h0:=qMs
 have h1:=qwp qLa qLs (by decide) qLa.bed (by decide) (qMy (-600))
 have h2:=qwp qLa qLs (by decide) qLa.bed (by decide) (qMy (-601))
 have hc:=qMI
 rw[qMH,qMl.1]at h1
 rw[hc,qMl.2]at h2
 refine zT mix Tryz.func76 Tryz.ntmps76 Tryz.results76 rfl rfl rfl ?_;simp only[qac,Nat.reduceAdd]
 repeat'(first|((with_reducible apply qmJ);rfl;rfl;rfl)|((with_reducible apply(qba 10 [[7,8],[8],[]]));decide +kernel;rfl)|(with_reducible apply qa1)|(with_reducible apply qax)|(with_reducible apply qav)|(with_reducible apply qb1)|(with_reducible apply qaF)|(with_reducible apply qc4)|(with_reducible apply qay)|((with_reducible apply qbn);rfl;(intro id'))|((with_reducible apply qa2);rfl)|((with_reducible apply qAc);apply qy4;rfl;rfl;rfl)|((with_reducible apply qLw);apply qy4;rfl;rfl;rfl)|(with_reducible rfl)|refine zS ?_|refine zA ?_|refine zF h0 ?_|refine zF h1 ?_|refine zF h2 ?_|(refine zI ?_;intro hlt)|(refine zC ?_ ?_<;>first|intro h|simp)|(refine zG ?_ ?_<;>first|intro h|simp)|((with_reducible apply qaG);rfl;rfl)|refine zE ?_|fail)
 all_goals rfl
end Go.Pv.Soil

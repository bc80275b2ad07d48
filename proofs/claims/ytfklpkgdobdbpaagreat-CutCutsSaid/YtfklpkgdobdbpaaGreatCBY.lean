import Derived.Test.YtfklpkgdobdbpaaGreatCBX
/- Part of the proofs over YtfklpkgdobdbpaaGreat: N65. -/
set_option linter.unusedVariables false
set_option linter.unusedSimpArgs false
set_option linter.unnecessarySimpa false
open Go Go.Proofs Go.Pv
set_option maxHeartbeats 8000000
set_option maxRecDepth 100000
set_option linter.unusedSimpArgs false
set_option linter.unusedVariables false
namespace Go.Pv.Soil
theorem qJZ{l:List Nat}:l.map qcX=(l.map fun i:Nat=>(i:Int)).map qak:=by rw[List.map_map];rfl
theorem qw6(l:List Nat)(hl:l.length<1000000000000):Contract Tryz.prog 38 [.sl (l.map qcX),.sl (l.map qcX)] (.ret (.bool true)):=by
 have h:=c79 (l.map fun i:Nat=>(i:Int)) (l.map fun i:Nat=>(i:Int)) (by simpa using hl)
 rw[decide_eq_true rfl]at h
 rw[qJZ]
 exact h
theorem qpp(g:Grid)(hg:g.levels.length<1000000000000):Contract Tryz.prog 47 [.agg (encGrid g)] (.ret (.bool (qvh g qna))):=by
 have h1:=c32 g qna hg
 refine zT mix Tryz.func47 Tryz.ntmps47 Tryz.results47 rfl rfl rfl ?_;simp only[qac,Nat.reduceAdd]
 repeat'(first|(with_reducible rfl)|refine zQ ?_|refine zF h1 ?_|refine zE ?_|fail)
 all_goals first|rfl|trace_state
theorem qyV(l:List Share)(hl:l.length<1000000000000):Contract Tryz.prog 51 [.sl (l.map qa5),.sl (l.map qa5)] (.ret (.bool true)):=by
 refine zT mix Tryz.func51 Tryz.ntmps51 Tryz.results51 rfl rfl rfl ?_;simp only[qac,Nat.reduceAdd]
 repeat'(first|refine zQ ?_|(refine zC ?_ ?_<;>first|intro h|simp)|fail)
 refine qaf (l.length) (fun i=>⟨[(5,.int .i64 i),(0,.sl (l.map qa5)),(1,.sl (l.map qa5))],[],0,26⟩) (fun i=>True) (qaa (k:=0) (ns:=[]) (ks:=[5,0,1]) [] rfl (by simp) rfl) trivial ?_
 intro i hi hC
 repeat'(first|(with_reducible rfl)|refine zQ ?_|(refine zI ?_;intro hlt)|(refine zC ?_ ?_<;>first|intro h|simp)|refine zE ?_|fail)
 ·simp at h
 ·exact⟨by omega,trivial,qaa (k:=0) (ns:=[]) (ks:=[5,0,1]) [] rfl (by simp) rfl⟩
theorem qlf(g:Grid):qvh g g=true:=by simp[qvh,qbX]
theorem law_cuts(s:Site)(hw:Wide s)(b:Grid)(hb:b.levels.length≤9223372036854775807)(c:Cut):Contract Tryz.prog 8 [.agg (encSite s),.agg (encGrid b),.agg (encCut c)] (.ret (.bool true)):=by
 have h0:=qqr
 have h1:=qnz s hw
 have h2:Contract Tryz.prog 21 [.sl [encCut c],.int .i64 1] (.ret (.bool (qxb [c] 1))):=qBO [c] (by simp) 1 (by omega)
 cases hs:qny s with
 |false=>
  rw[hs]at h1
  refine zT mix Tryz.func8 Tryz.ntmps8 Tryz.results8 rfl rfl rfl ?_;simp only[qac,Nat.reduceAdd]
  repeat'(first|(with_reducible rfl)|refine zQ ?_|refine zF h0 ?_|refine zF h1 ?_|refine zE ?_|fail)
  all_goals first|rfl|(exfalso;simp at *;done)|trace_state
 |true=>
 rw[hs]at h1
 obtain⟨hz,h16,hd8,_,_,hso⟩:=qiT hw hs
 by_cases hb20:b.levels.length≤20
 rotate_left
 ·refine zT mix Tryz.func8 Tryz.ntmps8 Tryz.results8 rfl rfl rfl ?_;simp only[qac,Nat.reduceAdd]
  repeat'(first|(with_reducible rfl)|refine zQ ?_|refine zF h0 ?_|refine zF h1 ?_|(refine zG ?_ ?_<;>first|intro h|simp)|refine zE ?_|fail)
  all_goals first|rfl|(exfalso;omega)|(exfalso;simp at *;done)|trace_state
 cases hf:qxb [c] 1 with
 |false=>
  rw[hf]at h2
  refine zT mix Tryz.func8 Tryz.ntmps8 Tryz.results8 rfl rfl rfl ?_;simp only[qac,Nat.reduceAdd]
  repeat'(first|((with_reducible apply qad);(exact qbD rfl (by simp) rfl);(exact h2);rfl)|(with_reducible rfl)|refine zQ ?_|refine zF h0 ?_|refine zF h1 ?_|(refine zG ?_ ?_<;>first|intro h|simp)|refine zE ?_|fail)
  all_goals first|rfl|(exfalso;omega)|(exfalso;simp at *;done)|trace_state
 |true=>
 rw[hf]at h2
 have a1:=qqe s hz (by omega) c
 have a2:Contract Tryz.prog 27 [.agg (encSite s),.sl [encCut c]] (.ret (.int .i64 (qde s [c]))):=qhi s hz [c] (by simp) (by omega)
 have a3:=qwa s hz (by omega) b (by omega) c
 have a4:=qBf s hz (by omega) b (by omega) c
 have a5:=qwb s hz (by omega) b (by omega) c
 have a6:=qwc s hz (by omega) b (by omega) c
 have a7:=qoH s hz (by omega) b (by omega) c
 by_cases hall:qde s [c]=0
 rotate_left
 ·have hon:onE s b c≠0:=by rw[qoG,if_pos hall];exact hall
  have e1:qyo s c=[]:=if_neg hall
  have e2:qC6 s b c=qna:=if_neg hon
  have e3:qv9 s b c=[]:=if_neg hon
  have e4:qC7 s b c=0:=if_neg hon
  have e5:qBZ s b c=0:=if_neg hon
  have e6:qzC s b c=onE s b c:=if_neg hon
  have e7:onE s b c=qde s [c]:=by rw[qoG,if_pos hall]
  rw[e1]at a1
  rw[e2]at a3
  rw[e3]at a4
  rw[e4,e6]at a5
  rw[e5,e6]at a6
  rw[e7]at a3 a4 a5 a6 a7
  have a8:=qpp qna (by decide)
  rw[qlf]at a8
  generalize qde s [c]=q at*
  refine zT mix Tryz.func8 Tryz.ntmps8 Tryz.results8 rfl rfl rfl ?_;simp only[qac,Nat.reduceAdd]
  repeat'(first|((with_reducible (show qan _ (.call _) _ _ _ _));first|((with_reducible apply qad);(exact qbD rfl (by simp) rfl);(exact h2);rfl)|((with_reducible apply qaj);(exact qmW rfl rfl (by simp) rfl);(exact a2);rfl))|(with_reducible rfl)|refine zQ ?_|refine zF h0 ?_|refine zF h1 ?_|refine zF a1 ?_|refine zF a3 ?_|refine zF a4 ?_|refine zF a5 ?_|refine zF a6 ?_|refine zF a7 ?_|refine zF a8 ?_|(refine zC ?_ ?_<;>first|intro h|simp)|(refine zG ?_ ?_<;>first|intro h|simp)|refine zE ?_|fail)
  all_goals first|rfl|(simp;done)|(exfalso;omega)|(exfalso;simp at *;done)|trace_state
 obtain⟨hls,hlc⟩:=qfp hall
 have ok:=(qd4 hall).1
 have okc:=hlc 0 (by simp)
 simp only[List.getElem_cons_zero]at okc
 have e1:qyo s c=qaH s c:=if_pos hall
 have b1:=qhj s ok.bed c okc
 obtain⟨_,_,_,hfl⟩:=qby ok.bed okc
 have b2:=qw6 (qaH s c) (by omega)
 rw[e1]at a1
 rw[hall]at a1 a2
 by_cases hon:onE s b c=0
 rotate_left
 ·have e2:qC6 s b c=qna:=if_neg hon
  have e3:qv9 s b c=[]:=if_neg hon
  have e4:qC7 s b c=0:=if_neg hon
  have e5:qBZ s b c=0:=if_neg hon
  have e6:qzC s b c=onE s b c:=if_neg hon
  rw[e2]at a3
  rw[e3]at a4
  rw[e4,e6]at a5
  rw[e5,e6]at a6
  have a8:=qpp qna (by decide)
  rw[qlf]at a8
  generalize onE s b c=q at*
  generalize qaH s c=ft at*
  refine zT mix Tryz.func8 Tryz.ntmps8 Tryz.results8 rfl rfl rfl ?_;simp only[qac,Nat.reduceAdd]
  repeat'(first|((with_reducible (show qan _ (.call _) _ _ _ _));first|((with_reducible apply qad);(exact qbD rfl (by simp) rfl);(exact h2);rfl)|((with_reducible apply qaj);(exact qmW rfl rfl (by simp) rfl);(exact a2);rfl))|(with_reducible rfl)|refine zQ ?_|refine zF h0 ?_|refine zF h1 ?_|refine zF a1 ?_|refine zF a3 ?_|refine zF a4 ?_|refine zF a5 ?_|refine zF a6 ?_|refine zF a7 ?_|refine zF a8 ?_|refine zF b1 ?_|refine zF b2 ?_|(refine zC ?_ ?_<;>first|intro h|simp)|(refine zG ?_ ?_<;>first|intro h|simp)|refine zE ?_|fail)
  all_goals first|rfl|(simp;done)|(exfalso;omega)|(exfalso;simp at *;done)|trace_state
 obtain⟨_,_,_,okb⟩:=qk0 hon
 have e2:qC6 s b c=qeL s b c:=if_pos hon
 have e3:qv9 s b c=qbb s b c:=if_pos hon
 have e4:qC7 s b c=(qbR s b c).1:=if_pos hon
 have e5:qBZ s b c=(qbR s b c).2.1:=if_pos hon
 have e6:qzC s b c=qyn (qbR s b c):=if_pos hon
 rw[e2,hon]at a3
 rw[e3,hon]at a4
 rw[e4,e6]at a5
 rw[e5,e6]at a6
 rw[hon]at a7
 have b3:Contract Tryz.prog 48 [.agg (encSite s),.agg (encGrid b),.agg (encCut c)] (.ret (.tup [.int .i64 (qbR s b c).1,.int .i64 (qbR s b c).2.1,.int .i64 (qyn (qbR s b c))])):=qng s ok hz b okb (by omega) c okc
 have b4:=qf5 s ok.bed b okb c okc
 have b5:=qvZ s ok.gr hz ok.bed b okb c okc
 have b6:=c32 (qeL s b c) (qeL s b c) (by have:=qeM ok.bed okb okc;have:=this.len ok.bed;omega)
 rw[qlf]at b6
 have b7:=qyV (qbb s b c) (by rw[qh6];omega)
 generalize qaH s c=ft at*
 generalize qyn (qbR s b c)=x3 at*
 generalize (qbR s b c).1=x1 at*
 generalize (qbR s b c).2.1=x2 at*
 generalize qeL s b c=lg at*
 generalize qbb s b c=tk at*
 refine zT mix Tryz.func8 Tryz.ntmps8 Tryz.results8 rfl rfl rfl ?_;simp only[qac,Nat.reduceAdd]
 repeat'(first|((with_reducible (show qan _ (.call _) _ _ _ _));first|((with_reducible apply qad);(exact qbD rfl (by simp) rfl);(exact h2);rfl)|((with_reducible apply qaj);(exact qmW rfl rfl (by simp) rfl);(exact a2);rfl))|(with_reducible rfl)|refine zQ ?_|refine zF h0 ?_|refine zF h1 ?_|refine zF a1 ?_|refine zF a3 ?_|refine zF a4 ?_|refine zF a5 ?_|refine zF a6 ?_|refine zF a7 ?_|refine zF b1 ?_|refine zF b2 ?_|refine zF b3 ?_|refine zF b4 ?_|refine zF b5 ?_|refine zF b6 ?_|refine zF b7 ?_|(refine zG ?_ ?_<;>first|intro h|simp)|refine zE ?_|fail)
 all_goals first|rfl|(simp;done)|(exfalso;omega)|(exfalso;simp at *;done)|trace_state
end Go.Pv.Soil

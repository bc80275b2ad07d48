import Derived.Test.YtfklpkgdobdbpaaGreatCAQ
/- Part of the proofs over YtfklpkgdobdbpaaGreat: N7. -/
set_option linter.unusedVariables false
set_option linter.unusedSimpArgs false
set_option linter.unnecessarySimpa false
open Go Go.Proofs Go.Pv
set_option maxHeartbeats 8000000
set_option maxRecDepth 100000
set_option linter.unusedSimpArgs false
set_option linter.unusedVariables false
namespace Go.Pv.Soil
theorem qxt{s:ByteArray}(h:¬s=⟨#[]⟩):1≤s.size:=by
 rcases Nat.lt_or_ge 0 s.size with h1|h1
 ·exact h1
 ·exfalso
  apply h
  have:s.size=0:=by omega
  cases s with
  |mk d=>
   have hd:d.size=0:=this
   rw[Array.size_eq_zero_iff.1 hd]
theorem qCU(s:ByteArray):Contract Tryz.prog 168 [.str s] (.ret (.bool (qaZ s))):=by
 by_cases h0:s=⟨#[]⟩
 ·subst h0
  refine zT mix Tryz.func168 Tryz.ntmps168 Tryz.results168 rfl rfl rfl ?_;simp only[qab,Nat.reduceAdd]
  repeat'(first|refine zQ ?_|((with_reducible apply qaz);rfl;rfl)|refine zE ?_|fail)
  all_goals first|exact qc7 (by decide)|trace_state
 have h1:=qxt h0
 refine zT mix Tryz.func168 Tryz.ntmps168 Tryz.results168 rfl rfl rfl ?_;simp only[qab,Nat.reduceAdd]
 repeat'(first|refine zQ ?_|(refine zC ?_ ?_<;>first|intro h|simp)|(refine zG ?_ ?_<;>first|intro h|simp)|((with_reducible apply qaz);rfl;rfl)|refine zE ?_|fail)
 all_goals try(exact qc7 (by omega))
 all_goals try exact absurd (by assumption) h0
 refine qad s.size (fun i=>⟨[(16,.int .i64 i),(15,.int .i64 s.size),(0,.str s)],[],32,57⟩) (fun i=>∀j,j<i→qj4 j (qdu s j)=true) (qaa (nx:=32) (k:=0) (ns:=[]) (ks:=[16,15,0]) [] rfl (by simp) (by kernel_rfl)) (by omega) ?_
 intro i hi hC
 repeat'(first|refine zQ ?_|(refine zC ?_ ?_<;>first|intro h|simp)|(refine zG ?_ ?_<;>first|intro h|simp)|refine zE ?_|fail)
 all_goals try simp only[Int.toNat_natCast]at*
 all_goals first
  |exact qgP (by omega) (by omega) fun j hj=>hC j (by omega)
  |exact qes (i:=i) (by omega) (qq9 (by omega))
  |exact qes (i:=i) (by omega) (by simp only[qj4,qf3];simp;omega)
  |(refine⟨by omega,qfo hC (by simp only[qj4,qf3];simp;omega),qaa (nx:=32) (k:=0) (ns:=[]) (ks:=[16,15,0]) [] rfl (by simp) (by kernel_rfl)⟩)
  |trace_state
theorem qlv(n lo hi:Int):Contract Tryz.prog 231 [.int .i64 n,.int .i64 lo,.int .i64 hi] (.ret (.bool (decide (n<lo∨hi<n)))):=by
 refine zT mix Tryz.func231 Tryz.ntmps231 Tryz.results231 rfl rfl rfl ?_;simp only[qab,Nat.reduceAdd]
 repeat'(first|refine zQ ?_|(refine zG ?_ ?_<;>first|intro h|simp)|refine zE ?_|fail)
 all_goals first|(refine decide_eq_decide.2 ?_;omega)|(symm;exact decide_eq_true (by omega))|trace_state
theorem qsQ(n lo hi:Int):Contract Tryz.prog 237 [.int .i64 n,.int .i64 lo,.int .i64 hi] (.ret (.bool (decide (lo≤n∧n≤hi)))):=by
 refine zT mix Tryz.func237 Tryz.ntmps237 Tryz.results237 rfl rfl rfl ?_;simp only[qab,Nat.reduceAdd]
 repeat'(first|refine zQ ?_|(refine zG ?_ ?_<;>first|intro h|simp)|refine zE ?_|fail)
 all_goals first|(refine decide_eq_decide.2 ?_;omega)|(symm;exact decide_eq_true (by omega))|(symm;exact decide_eq_false (by omega))|trace_state
theorem qrd(m:Mark):Contract Tryz.prog 232 [.agg (qfa m)] (.ret (.bool (!qe0 m))):=by
 refine zT mix Tryz.func232 Tryz.ntmps232 Tryz.results232 rfl rfl rfl ?_;simp only[qab,Nat.reduceAdd]
 repeat'(first|((with_reducible apply qae);rfl;(exact qlv _ _ _);rfl)|refine zQ ?_|(refine zG ?_ ?_<;>first|intro h|simp)|refine zE ?_|fail)
 all_goals (rw[qe0,←decide_not];first|(refine decide_eq_decide.2 ?_;omega)|(symm;exact decide_eq_true (by omega))|(symm;exact decide_eq_false (by omega))|trace_state)
theorem qre(m:Mark):Contract Tryz.prog 238 [.agg (qfa m)] (.ret (.int .i64 (if qe0 m=false then 2 else 0))):=by
 refine zT mix Tryz.func238 Tryz.ntmps238 Tryz.results238 rfl rfl rfl ?_;simp only[qab,Nat.reduceAdd]
 repeat'(first|((with_reducible apply qae);rfl;(exact qsQ _ _ _);rfl)|refine zQ ?_|(refine zC ?_ ?_<;>first|intro h|simp)|(refine zG ?_ ?_<;>first|intro h|simp)|refine zE ?_|fail)
 all_goals first
  |(rw[if_pos (by rw[qe0];exact decide_eq_false (by omega))])
  |(rw[if_neg (by rw[qe0,decide_eq_true (by omega)];simp)])
  |trace_state
theorem qio{l:List Mark}{i:Nat}(hi:i<l.length):qoa l i=if qe0 l[i]=false then 2 else if 0<i∧l[i].minute≤((l[i-1]?).map (·.minute)).getD 0 then 9 else 0:=by
 simp only[qoa,List.getElem?_eq_getElem hi]
theorem qxu{l:List Mark}{i:Nat}(hi:i<l.length)(h:qe0 l[i]=false):qoa l i=2:=by rw[qio hi,if_pos h]
theorem qxv{l:List Mark}{i:Nat}(hi:i<l.length)(h:qe0 l[i]=true)(h0:0<i)(h1:l[i].minute≤(l[i-1]'(by omega)).minute):qoa l i=9:=by
 rw[qio hi,if_neg (by simp[h]),if_pos ⟨h0,by rw[List.getElem?_eq_getElem (by omega)];exact h1⟩]
theorem qob{l:List Mark}{i:Nat}(hi:i<l.length)(h:qe0 l[i]=true)(h1:i=0∨∃h:i-1<l.length,¬l[i].minute≤l[i-1].minute):qoa l i=0:=by
 rw[qio hi,if_neg (by simp[h]),if_neg]
 rintro⟨h2,h3⟩
 rcases h1 with h1|⟨h4,h1⟩
 ·omega
 ·rw[List.getElem?_eq_getElem h4]at h3;exact h1 h3
theorem qBq{g:Gauge}(h:¬((-1000000≤g.x∧g.x≤1000000)∧(0≤g.err∧g.err≤1000))):2=qoI g:=by unfold qoI;rw[if_pos h]
theorem qBr{g:Gauge}(h:(-1000000≤g.x∧g.x≤1000000)∧(0≤g.err∧g.err≤1000))(h2:400<g.marks.length):8=qoI g:=by unfold qoI;rw[if_neg (not_not_intro h),if_pos h2]
theorem qBs{g:Gauge}(h:(-1000000≤g.x∧g.x≤1000000)∧(0≤g.err∧g.err≤1000))(h2:¬400<g.marks.length):qoI g=qcK g.marks.length (qoa g.marks):=by unfold qoI;rw[if_neg (not_not_intro h),if_neg h2]
theorem qkk{i:Nat}(h:0<i):((i:Int)-1).toNat=i-1:=by omega
theorem qzZ(g:Gauge)(hl:g.marks.length≤9223372036854775807):Contract Tryz.prog 171 [.agg (qax g)] (.ret (.int .i64 (qoI g))):=by
 refine zT mix Tryz.func171 Tryz.ntmps171 Tryz.results171 rfl rfl rfl ?_;simp only[qab,Nat.reduceAdd]
 repeat'(first|((with_reducible apply qae);rfl;(exact qlv _ _ _);rfl)|refine zQ ?_|(refine zC ?_ ?_<;>first|intro h|simp)|(refine zG ?_ ?_<;>first|intro h|simp)|refine zE ?_|fail)
 all_goals first
  |exact qBq (by omega)
  |exact qBr (by omega) (by omega)
  |skip
 rw[qBs (by omega) (by omega)]
 refine qad g.marks.length (fun i=>⟨[(20,.int .i64 i),(18,.sl (g.marks.map qfa)),(19,.int .i64 g.marks.length),(1,.op 0 0 0)],[(0,⟨4,true,[qax g]⟩)],32,42⟩) (fun i=>∀j,j<i→qoa g.marks j=0) (qaa (nx:=32) (k:=0) (ns:=[]) (ks:=[20,18,19,1]) [(0,0)] rfl (by simp) (by kernel_rfl)) (by omega) ?_
 intro i hi hC
 by_cases hL:i<g.marks.length
 rotate_left
 ·repeat'(first|refine zQ ?_|(refine zI ?_;intro hlt)|(refine zC ?_ ?_<;>first|intro h|simp)|refine zE ?_|fail)
  all_goals first
   |exact absurd hL (by omega)
   |exact(qaC fun j hj=>hC j (by omega)).symm
   |trace_state
 have h1:=qrd g.marks[i]
 by_cases hm:qe0 g.marks[i]=true
 rotate_left
 ·have hm':qe0 g.marks[i]=false:=by simpa using hm
  rw[hm']at h1
  repeat'(first|refine zQ ?_|refine zF h1 ?_|(refine zI ?_;intro hlt)|(refine zC ?_ ?_<;>first|intro h|simp)|refine zE ?_|fail)
  all_goals first
   |exact absurd hL (by omega)
   |exact qat hL hC (qxu hL hm') (by decide)
   |trace_state
 rw[hm]at h1
 by_cases h0:0<i
 ·have hp:=qkk h0
  repeat'(first|refine zQ ?_|refine zF h1 ?_|(refine zI ?_;intro hlt)|(refine zC ?_ ?_<;>first|intro h|simp)|(refine zG ?_ ?_<;>first|intro h|simp)|refine zE ?_|fail)
  all_goals try simp only[hp]at*
  all_goals first
   |exact absurd hL (by omega)
   |exact absurd h0 (by omega)
   |exact qat hL hC (qxv hL hm h0 (by assumption)) (by decide)
   |(refine⟨hL,qaQ hC (qob hL hm (.inr ⟨by omega,by assumption⟩)),qaa (nx:=32) (k:=0) (ns:=[]) (ks:=[20,18,19,1]) [(0,0)] rfl (by simp) (by kernel_rfl)⟩)
   |trace_state
 ·repeat'(first|refine zQ ?_|refine zF h1 ?_|(refine zI ?_;intro hlt)|(refine zC ?_ ?_<;>first|intro h|simp)|(refine zG ?_ ?_<;>first|intro h|simp)|refine zE ?_|fail)
  all_goals first
   |exact absurd hL (by omega)
   |exact absurd (show 0<i by omega) h0
   |(refine⟨hL,qaQ hC (qob hL hm (.inl (by omega))),qaa (nx:=32) (k:=0) (ns:=[]) (ks:=[20,18,19,1]) [(0,0)] rfl (by simp) (by kernel_rfl)⟩)
   |trace_state
theorem qz0(g:Gauge)(hl:g.marks.length≤9223372036854775807):Contract Tryz.prog 178 [.agg (qax g)] (.ret (.int .i64 (qoI g))):=by
 refine zT mix Tryz.func178 Tryz.ntmps178 Tryz.results178 rfl rfl rfl ?_;simp only[qab,Nat.reduceAdd]
 repeat'(first|((with_reducible apply qae);rfl;(exact qsQ _ _ _);rfl)|refine zQ ?_|(refine zC ?_ ?_<;>first|intro h|simp)|(refine zG ?_ ?_<;>first|intro h|simp)|refine zE ?_|fail)
 all_goals first
  |exact qBq (by omega)
  |exact qBr (by omega) (by omega)
  |skip
 rw[qBs (by omega) (by omega)]
 refine qad g.marks.length (fun i=>⟨[(3,.int .i64 i),(1,.op 0 0 0)],[(0,⟨4,true,[qax g]⟩)],32,53⟩) (fun i=>∀j,j<i→qoa g.marks j=0) (qaa (nx:=32) (k:=0) (ns:=[]) (ks:=[3,1]) [(0,0)] rfl (by simp) (by kernel_rfl)) (by omega) ?_
 intro i hi hC
 by_cases hL:i<g.marks.length
 rotate_left
 ·repeat'(first|refine zQ ?_|(refine zI ?_;intro hlt)|(refine zC ?_ ?_<;>first|intro h|simp)|refine zE ?_|fail)
  all_goals first
   |exact absurd hL (by omega)
   |exact(qaC fun j hj=>hC j (by omega)).symm
   |trace_state
 have h1:=qre g.marks[i]
 by_cases hm:qe0 g.marks[i]=true
 rotate_left
 ·have hm':qe0 g.marks[i]=false:=by simpa using hm
  rw[if_pos hm']at h1
  repeat'(first|refine zQ ?_|refine zF h1 ?_|(refine zI ?_;intro hlt)|(refine zC ?_ ?_<;>first|intro h|simp)|refine zE ?_|fail)
  all_goals first
   |exact absurd hL (by omega)
   |exact qat hL hC (qxu hL hm') (by decide)
   |(exfalso;simp at *;done)
   |trace_state
 rw[if_neg (by simp[hm])]at h1
 by_cases h0:0<i
 ·have hp:=qkk h0
  repeat'(first|refine zQ ?_|refine zF h1 ?_|(refine zI ?_;intro hlt)|(refine zC ?_ ?_<;>first|intro h|simp)|(refine zG ?_ ?_<;>first|intro h|simp)|refine zE ?_|fail)
  all_goals try simp only[hp,Int.toNat_natCast]at*
  all_goals first
   |exact absurd hL (by omega)
   |exact absurd h0 (by omega)
   |exact qat hL hC (qxv hL hm h0 (by assumption)) (by decide)
   |(refine⟨hL,qaQ hC (qob hL hm (.inr ⟨by omega,by assumption⟩)),qaa (nx:=32) (k:=0) (ns:=[]) (ks:=[3,1]) [(0,0)] rfl (by simp) (by kernel_rfl)⟩)
   |(exfalso;simp at *;done)
   |trace_state
 ·repeat'(first|refine zQ ?_|refine zF h1 ?_|(refine zI ?_;intro hlt)|(refine zC ?_ ?_<;>first|intro h|simp)|(refine zG ?_ ?_<;>first|intro h|simp)|refine zE ?_|fail)
  all_goals first
   |exact absurd hL (by omega)
   |exact absurd (show 0<i by omega) h0
   |(refine⟨hL,qaQ hC (qob hL hm (.inl (by omega))),qaa (nx:=32) (k:=0) (ns:=[]) (ks:=[3,1]) [(0,0)] rfl (by simp) (by kernel_rfl)⟩)
   |(exfalso;simp at *;done)
   |trace_state
end Go.Pv.Soil

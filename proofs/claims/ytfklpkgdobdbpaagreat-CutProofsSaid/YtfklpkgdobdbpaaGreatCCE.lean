import Derived.Test.YtfklpkgdobdbpaaGreatCBY
/- Part of the proofs over YtfklpkgdobdbpaaGreat: N80. -/
set_option linter.unusedVariables false
set_option linter.unusedSimpArgs false
set_option linter.unnecessarySimpa false
open Go Go.Proofs Go.Pv
set_option maxHeartbeats 8000000
set_option maxRecDepth 100000
set_option linter.unusedSimpArgs false
set_option linter.unusedVariables false
namespace Go.Pv.Soil
def qAX(l:List Cut):Bool:=decide (l.length≤4∨8<l.length)
theorem qFV(l:List Cut)(hl:l.length≤9223372036854775807):Contract Tryz.prog 32 [.sl (l.map encCut)] (.ret (.bool (qAX l))):=by
 by_cases h:l.length≤4∨8<l.length
 ·have e:qAX l=true:=decide_eq_true h
  rw[e]
  refine zT mix Tryz.func32 Tryz.ntmps32 Tryz.results32 rfl rfl rfl ?_;simp only[qab,Nat.reduceAdd]
  repeat'(first|(with_reducible rfl)|refine zQ ?_|(refine zG ?_ ?_<;>first|intro h|simp)|refine zE ?_|fail)
  all_goals first|rfl|(exfalso;omega)|(simp;omega)|trace_state
 ·have e:qAX l=false:=decide_eq_false h
  rw[e]
  refine zT mix Tryz.func32 Tryz.ntmps32 Tryz.results32 rfl rfl rfl ?_;simp only[qab,Nat.reduceAdd]
  repeat'(first|refine zQ ?_|(refine zG ?_ ?_<;>first|intro h|simp)|refine zE ?_|fail)
  all_goals first|rfl|(exfalso;omega)|(simp;omega)|trace_state
def qAY(s:Site)(l:List Cut)(set k:Nat):Bool:=match l[k]? with
 |some c=> !qiF set k&&qjl s (qd3 s l set) c
 |none=>false
def qqA(s:Site)(l:List Cut):Bool:=(List.range (2^l.length)).all fun set=>(List.range l.length).all fun k=> !qAY s l set k
theorem qAZ{s:Site}{l:List Cut}{set k:Nat}(h1:set<2^l.length)(h2:k<l.length)(h:qAY s l set k=true):qqA s l=false:=by
 rw[Bool.eq_false_iff]
 intro hh
 have:=List.all_eq_true.1 (List.all_eq_true.1 hh set (List.mem_range.2 h1)) k (List.mem_range.2 h2)
 rw[h]at this
 cases this
theorem qy2{s:Site}{l:List Cut}(h:∀set,set<2^l.length→∀k,k<l.length→qAY s l set k=false):qqA s l=true:=
 List.all_eq_true.2 fun set hs=>List.all_eq_true.2 fun k hk=>by rw[h set (List.mem_range.1 hs) k (List.mem_range.1 hk)];rfl
theorem qDX(s:Site)(hz:Sized s)(hs:OkSite s)(h100:s.bed.levels.length≤100)(l:List Cut)(hll:l.length≤8)(hl:∀i (hi:i<l.length),OkCut s l[i]):Contract Tryz.prog 34 [.agg (encSite s),.sl (l.map encCut)] (.ret (.bool (qqA s l))):=by
 obtain⟨p8,p1⟩:=qy6 hll
 refine zT mix Tryz.func34 Tryz.ntmps34 Tryz.results34 rfl rfl rfl ?_;simp only[qab,Nat.reduceAdd]
 repeat'(first|refine zQ ?_|fail)
 refine qad (2^l.length) (fun i=>⟨[(5,.int .i64 i),(1,.sl (l.map encCut)),(2,.op 0 0 0)],[(0,⟨12,true,[encSite s]⟩)],32,37⟩) (fun i=>∀t,t<i→∀k,k<l.length→qAY s l t k=false) ?_ (fun t ht=>absurd ht (by omega)) ?_
 ·exact qaa (nx:=32) (k:=0) (ns:=[]) (ks:=[5,1,2]) [(0,0)] rfl (by simp) (by kernel_rfl)
 intro i hi hC
 by_cases hL:i<2^l.length
 rotate_left
 ·rw[qy2 fun t ht k hk=>hC t (by omega) k hk]
  repeat'(first|((with_reducible apply qce);rfl;rfl;rfl;omega)|(with_reducible rfl)|refine zS ?_|refine zA ?_|(refine zC ?_ ?_<;>first|intro h|simp)|refine zE ?_|fail)
  all_goals first|rfl|exact absurd hL (by omega)|(exfalso;omega)|trace_state
 repeat'(first|((with_reducible apply qce);rfl;rfl;rfl;omega)|refine zS ?_|refine zA ?_|(refine zC ?_ ?_<;>first|intro h|simp)|refine zE ?_|fail)
 all_goals try(exfalso;omega)
 refine qad l.length (fun k=>⟨[(6,.int .i64 k),(5,.int .i64 i),(1,.sl (l.map encCut)),(2,.op 0 0 0)],[(0,⟨12,true,[encSite s]⟩)],32,37⟩) (fun k=>∀j,j<k→qAY s l i j=false) ?_ (fun t ht=>absurd ht (by omega)) ?_
 ·exact qaa (nx:=32) (k:=0) (ns:=[]) (ks:=[6,5,1,2]) [(0,0)] rfl (by simp) (by kernel_rfl)
 intro k hk hJ
 by_cases hK:k<l.length
 rotate_left
 ·repeat'(first|refine zQ ?_|(refine zC ?_ ?_<;>first|intro h|simp)|(refine zG ?_ ?_<;>first|intro h|simp)|((with_reducible apply qaz);rfl;rfl)|fail)
  all_goals first
   |exact absurd hK (by omega)
   |exact⟨hL,(fun t ht j hj=>by
     rcases Nat.lt_succ_iff_lt_or_eq.1 ht with h'|rfl
     ·exact hC t h' j hj
     ·exact hJ j (by omega)),qaa (nx:=32) (k:=0) (ns:=[]) (ks:=[5,1,2]) [(0,0)] rfl (by simp) (by kernel_rfl)⟩
   |trace_state
 have hok:=ql0 hs hl (set:=i) l.length
 have hlen:=hok.len hs.bed
 have h1:=qtO s hs l hll hl i (by omega)
 have h2:=qx0 s hs hz (qd3 s l i) hok (by unfold qd3;omega) l[k] (hl k hK)
 have hbd:qAY s l i k=(!qiF i k&&qjl s (qd3 s l i) l[k]):=by simp only[qAY,List.getElem?_eq_getElem hK]
 have hno:=qAZ (s:=s) (l:=l) (set:=i) (k:=k) hL hK
 generalize qqA s l=R at*
 generalize qjl s (qd3 s l i) l[k]=lo at*
 generalize qd3 s l i=g at*
 cases hb:qiF i k with
 |true=>
  have hm:i/2^k%2=1:=of_decide_eq_true hb
  have hf:qAY s l i k=false:=by rw[hbd,hb];rfl
  repeat'(first|((with_reducible apply qdx);rfl;rfl;rfl;omega)|refine zS ?_|refine zA ?_|refine zF h1 ?_|refine zF h2 ?_|(refine zI ?_;intro hlt)|(refine zC ?_ ?_<;>first|intro h|simp)|(refine zG ?_ ?_<;>first|intro h|simp)|refine zE ?_|fail)
  all_goals first
   |exact absurd hK (by omega)
   |(exfalso;simp only[tm2]at *;omega)
   |exact⟨hK,(fun j hj=>by
     rcases Nat.lt_succ_iff_lt_or_eq.1 hj with h'|rfl
     ·exact hJ j h'
     ·exact hf),qaa (nx:=32) (k:=0) (ns:=[]) (ks:=[6,5,1,2]) [(0,0)] rfl (by simp) (by kernel_rfl)⟩
   |trace_state
 |false=>
  have hm:¬i/2^k%2=1:=of_decide_eq_false hb
  cases lo with
  |true=>
   rw[hno (by rw[hbd,hb];rfl)]
   repeat'(first|((with_reducible apply qdx);rfl;rfl;rfl;omega)|(with_reducible rfl)|refine zS ?_|refine zA ?_|refine zF h1 ?_|refine zF h2 ?_|(refine zI ?_;intro hlt)|(refine zC ?_ ?_<;>first|intro h|simp)|(refine zG ?_ ?_<;>first|intro h|simp)|refine zE ?_|fail)
   all_goals first|rfl|exact absurd hK (by omega)|(exfalso;simp only[tm2]at *;omega)|trace_state
  |false=>
   have hf:qAY s l i k=false:=by rw[hbd,hb];rfl
   repeat'(first|((with_reducible apply qdx);rfl;rfl;rfl;omega)|refine zS ?_|refine zA ?_|refine zF h1 ?_|refine zF h2 ?_|(refine zI ?_;intro hlt)|(refine zC ?_ ?_<;>first|intro h|simp)|(refine zG ?_ ?_<;>first|intro h|simp)|fail)
   all_goals first
    |exact absurd hK (by omega)
    |(exfalso;simp only[tm2]at *;omega)
    |exact⟨hK,(fun j hj=>by
      rcases Nat.lt_succ_iff_lt_or_eq.1 hj with h'|rfl
      ·exact hJ j h'
      ·exact hf),qaa (nx:=32) (k:=0) (ns:=[]) (ks:=[6,5,1,2]) [(0,0)] rfl (by simp) (by kernel_rfl)⟩
    |trace_state
end Go.Pv.Soil

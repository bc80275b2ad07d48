import Derived.Test.YtfklpkgdobdbpaaGreatCBV
/- Part of the proofs over YtfklpkgdobdbpaaGreat: N60. -/
set_option linter.unusedVariables false
set_option linter.unusedSimpArgs false
set_option linter.unnecessarySimpa false
open Go Go.Proofs Go.Pv
set_option maxHeartbeats 8000000
set_option maxRecDepth 100000
set_option linter.unusedSimpArgs false
set_option linter.unusedVariables false
namespace Go.Pv.Soil
theorem tm2{q:Nat}:(q:Int).tmod 2=((q%2:Nat):Int):=by
 rw[Int.tmod_eq_emod_of_nonneg (by omega)]
 omega
theorem qtO(s:Site)(hs:OkSite s)(l:List Cut)(hll:l.length≤8)(hl:∀i (hi:i<l.length),OkCut s l[i])(set:Nat)(hset:set≤1000):Contract Tryz.prog 117 [.agg (encSite s),.sl (l.map encCut),.int .i64 set] (.ret (.agg (qag (qd3 s l set)))):=by
 have hsm:=hs.bed.small
 have h1:Contract Tryz.prog 79 [.agg (qag s.bed)] (.ret (.agg (qag s.bed))):=qEU qrk (c91 s.bed (by omega))
 refine zT mix Tryz.func117 Tryz.ntmps117 Tryz.results117 rfl rfl rfl ?_;simp only[qab,Nat.reduceAdd]
 repeat'(first|refine zQ ?_|refine zF h1 ?_|fail)
 refine qad l.length (fun i=>⟨[(8,.int .i64 i),(2,.int .i64 set),(1,.sl (l.map encCut)),(3,.op 0 0 0),(6,.op 1 0 0),(7,.op 2 0 0)],[(0,⟨12,true,[encSite s]⟩),(1,⟨6,false,[[.int .i64 0,.int .i64 0,.int .i64 0,.int .i64 0,.int .i64 0,.nilsl]]⟩),(2,⟨6,false,[qag (qkt s l set i)]⟩)],96,31⟩) (fun i=>True) ?_ trivial ?_
 ·exact qaa (nx:=96) (k:=0) (ns:=[]) (ks:=[8,2,1,3,6,7]) [(0,0),(32,1),(160,2)] rfl (by simp) (by kernel_rfl)
 intro i hi _
 have hok:=ql0 hs hl (set:=set) i
 by_cases hL:i<l.length
 ·have h2:=qgx s hs.bed (qkt s l set i) hok l[i] (hl i hL)
  have hsu:=qiG (s:=s) (set:=set) hL
  cases hb:qiF set i with
  |true=>
   have hm:set/2^i%2=1:=of_decide_eq_true hb
   rw[if_pos hb]at hsu
   rw[←hsu]at h2
   generalize qkt s l set (i+1)=g2 at*
   generalize qkt s l set i=g1 at*
   repeat'(first|((with_reducible apply qdx);rfl;rfl;rfl;omega)|refine zS ?_|refine zA ?_|refine zF h2 ?_|(refine zI ?_;intro hlt)|(refine zC ?_ ?_<;>first|intro h|simp)|fail)
   all_goals first
    |exact absurd hL (by omega)
    |(exfalso;simp only[tm2]at *;omega)
    |exact⟨hL,trivial,qaa (nx:=96) (k:=0) (ns:=[]) (ks:=[8,2,1,3,6,7]) [(0,0),(1,1),(2,2)] rfl (by simp) (by kernel_rfl)⟩
    |(exfalso;omega)
    |trace_state
  |false=>
   have hm:¬set/2^i%2=1:=of_decide_eq_false hb
   rw[if_neg (by rw[hb];simp)]at hsu
   rw[hsu]
   generalize qkt s l set i=g1 at*
   repeat'(first|((with_reducible apply qdx);rfl;rfl;rfl;omega)|refine zS ?_|refine zA ?_|refine zF h2 ?_|(refine zI ?_;intro hlt)|(refine zC ?_ ?_<;>first|intro h|simp)|fail)
   all_goals first
    |exact absurd hL (by omega)
    |(exfalso;simp only[tm2]at *;omega)
    |exact⟨hL,trivial,qaa (nx:=96) (k:=0) (ns:=[]) (ks:=[8,2,1,3,6,7]) [(0,0),(1,1),(2,2)] rfl (by simp) (by kernel_rfl)⟩
    |(exfalso;omega)
    |trace_state
 ·obtain rfl:i=l.length:=by omega
  unfold qd3
  generalize qkt s l set l.length=g1 at*
  repeat'(first|refine zQ ?_|(refine zI ?_;intro hlt)|(refine zC ?_ ?_<;>first|intro h|simp)|((with_reducible apply qaz);rfl;rfl)|fail)
  all_goals first
   |exact absurd (show l.length<l.length by omega) hL
   |exact qif rfl rfl rfl
   |trace_state
theorem qFQ(s:Site)(hz:Sized s)(hs:OkSite s)(h100:s.bed.levels.length≤100)(l:List Cut)(hll:l.length≤8)(hl:∀i (hi:i<l.length),OkCut s l[i])(set:Nat)(hset:set≤1000)(k:Nat)(hk:k<l.length):Contract Tryz.prog 132 [.agg (encSite s),.sl (l.map encCut),.int .i64 set,.int .i64 k] (.ret (.int .i64 (qou s l set k))):=by
 have hok:=ql0 hs hl (set:=set) l.length
 have hlen:=hok.len hs.bed
 have h1:=qtO s hs l hll hl set hset
 have h2:=qqg s hz hs (qd3 s l set) hok (by unfold qd3;omega) l[k] (hl k hk)
 have e:qou s l set k=qAA (qfg s (qd3 s l set) l[k]):=by simp only[qou,List.getElem?_eq_getElem hk]
 rw[e]
 generalize qfg s (qd3 s l set) l[k]=o at*
 generalize qd3 s l set=g at*
 cases o with
 |none=>
  refine zT mix Tryz.func132 Tryz.ntmps132 Tryz.results132 rfl rfl rfl ?_;simp only[qab,Nat.reduceAdd]
  repeat'(first|((with_reducible apply(qaS 14 [[12],[]]));decide +kernel;rfl)|(with_reducible apply qaR)|(with_reducible apply qav)|(with_reducible apply qas)|(with_reducible apply qby)|(with_reducible apply qaA)|(with_reducible apply qcv)|(with_reducible apply qaw)|((with_reducible apply qa9);rfl;(intro id'))|((with_reducible apply qaT);rfl)|refine zS ?_|refine zA ?_|refine zF h1 ?_|refine zF h2 ?_|(refine zI ?_;intro hlt)|refine zE ?_|fail)
  all_goals rfl
 |some v=>
  obtain⟨r,c⟩:=v
  refine zT mix Tryz.func132 Tryz.ntmps132 Tryz.results132 rfl rfl rfl ?_;simp only[qab,Nat.reduceAdd]
  repeat'(first|((with_reducible apply(qaS 14 [[12],[]]));decide +kernel;rfl)|(with_reducible apply qaR)|(with_reducible apply qav)|(with_reducible apply qas)|(with_reducible apply qby)|(with_reducible apply qaA)|(with_reducible apply qcv)|(with_reducible apply qaw)|((with_reducible apply qa9);rfl;(intro id'))|((with_reducible apply qaT);rfl)|refine zS ?_|refine zA ?_|refine zF h1 ?_|refine zF h2 ?_|(refine zI ?_;intro hlt)|refine zE ?_|fail)
  all_goals rfl
theorem qFR(s:Site)(hz:Sized s)(hs:OkSite s)(h100:s.bed.levels.length≤100)(l:List Cut)(hll:l.length≤8)(hl:∀i (hi:i<l.length),OkCut s l[i])(B:Int)(hB0:0≤B∧B≤1000000000000000000)(hB:∀i,i<l.length→0≤prE s l i∧prE s l i≤B):Contract Tryz.prog 36 [.agg (encSite s),.sl (l.map encCut)] (.ret (.int .i64 (prS s l l.length))):=by
 have hsb:∀i,i≤l.length→0≤prS s l i∧prS s l i≤i*B:=by
  intro i hi
  induction i with
  |zero=>simp[prS]
  |succ i ih=>
   have h1:=ih (by omega)
   have h2:=hB i (by omega)
   simp only[prS,Int.natCast_add,Int.natCast_one,Int.add_mul,Int.one_mul]
   omega
 refine zT mix Tryz.func36 Tryz.ntmps36 Tryz.results36 rfl rfl rfl ?_;simp only[qab,Nat.reduceAdd]
 repeat'(first|refine zQ ?_|fail)
 refine qad l.length (fun i=>⟨[(6,.int .i64 i),(5,.int .i64 (prS s l i)),(1,.sl (l.map encCut)),(2,.op 0 0 0)],[(0,⟨12,true,[encSite s]⟩)],32,34⟩) (fun i=>True) ?_ trivial ?_
 ·exact qaa (nx:=32) (k:=0) (ns:=[]) (ks:=[6,5,1,2]) [(0,0)] rfl (by simp) (by kernel_rfl)
 intro i hi _
 have hok:=qgE hs hl i
 have hlen:=hok.len hs.bed
 have hbi:=hsb i hi
 have hbb:(i:Int)*B≤8*1000000000000000000:=by
  have:=Int.mul_le_mul (show(i:Int)≤8 by omega) hB0.2 hB0.1 (by omega)
  omega
 by_cases hL:i<l.length
 ·have h1:=qlW s hs l (by omega) hl i hi
  have h2:=qko s hs hz (qcz s l i) hok (by omega) l[i] (hl i hL)
  have hB1:=hB i hL
  have hsu:prS s l (i+1)=prS s l i+prE s l i:=rfl
  have e:prE s l i=(qiS (dredOf s l[i].dredger) (qbk s (qcz s l i) l[i])).2.1:=qtA hL
  rw[←e]at h2
  generalize prS s l (i+1)=p2 at*
  generalize prE s l i=pe at*
  generalize prS s l i=p1 at*
  generalize (qiS (dredOf s l[i].dredger) (qbk s (qcz s l i) l[i])).1=x1 at*
  generalize qBH (qiS (dredOf s l[i].dredger) (qbk s (qcz s l i) l[i]))=x2 at*
  generalize qcz s l i=g1 at*
  subst hsu
  repeat'(first|refine zQ ?_|refine zF h1 ?_|refine zF h2 ?_|(refine zI ?_;intro hlt)|(refine zC ?_ ?_<;>first|intro h|simp)|fail)
  all_goals first
   |exact absurd hL (by omega)
   |exact⟨hL,trivial,qaa (nx:=32) (k:=0) (ns:=[]) (ks:=[6,5,1,2]) [(0,0)] rfl (by simp) (by kernel_rfl)⟩
   |(exfalso;omega)
   |trace_state
 ·obtain rfl:i=l.length:=by omega
  repeat'(first|(with_reducible rfl)|refine zQ ?_|(refine zC ?_ ?_<;>first|intro h|simp)|refine zE ?_|fail)
  all_goals first
   |exact absurd (show l.length<l.length by omega) hL
   |trace_state
end Go.Pv.Soil

import Derived.Test.YtfklpkgdobdbpaaGreatCBM
/- Part of the proofs over YtfklpkgdobdbpaaGreat: N38, S38. -/
set_option linter.unusedVariables false
set_option linter.unusedSimpArgs false
set_option linter.unnecessarySimpa false
open Go Go.Proofs Go.Pv
set_option maxHeartbeats 8000000
set_option maxRecDepth 100000
set_option linter.unusedSimpArgs false
set_option linter.unusedVariables false
namespace Go.Pv.Soil
def qeu(s:Site)(l:List Cut):Nat→Grid
 |0=>s.bed
 |n+1=>match l[n]? with
  |some c=>qeL s (qeu s l n) c
  |none=>qeu s l n
theorem qfr{s:Site}{l:List Cut}{n:Nat}(h:n<l.length):qeu s l (n+1)=qeL s (qeu s l n) l[n]:=by
 simp only[qeu,List.getElem?_eq_getElem h]
theorem qr3(s:Site)(h:OkSite s):OkBed s s.bed:=⟨h.bed,h.be,decide_eq_true ⟨rfl,rfl,rfl,rfl,rfl⟩⟩
theorem qpa{s:Site}(h:OkSite s){l:List Cut}(hl:∀i (hi:i<l.length),OkCut s l[i]):∀n,OkBed s (qeu s l n)
 |0=>qr3 s h
 |n+1=>by
  have ih:=qpa h hl n
  by_cases hn:n<l.length
  ·rw[qfr hn];exact qeM h.bed ih (hl n hn)
  ·simp only[qeu,List.getElem?_eq_none (Nat.le_of_not_lt hn)];exact ih
theorem qr4{s:Site}{l:List Cut}{k:Nat}:∀n,n≤k→qeu s (l.take k) n=qeu s l n
 |0,_=>rfl
 |n+1,h=>by
  have ih:=qr4 (s:=s) (l:=l) (k:=k) n (by omega)
  simp only[qeu,ih]
  rw[List.getElem?_take,if_pos (show n<k by omega)]
theorem qno(s:Site)(hs:OkSite s)(l:List Cut)(hll:l.length≤1000000)(hl:∀i (hi:i<l.length),OkCut s l[i]):Contract Tryz.prog 119 [.agg (encSite s),.sl (l.map encCut)] (.ret (.agg (encGrid (qeu s l l.length)))):=by
 have hsm:=hs.bed.small
 have hp0:0<s.bed.levels.length:=by
  have hb:=hs.bed.bds
  have h2:=hs.bed.len
  have h3:=Int.mul_pos (show 0<s.bed.cols by omega) (show 0<s.bed.rows by omega)
  omega
 have h1:=qu3 qvS (qIh s.bed.levels hp0 (by omega))
 refine zT mix Tryz.func119 Tryz.ntmps119 Tryz.results119 rfl rfl rfl ?_;simp only[qac,Nat.reduceAdd]
 repeat'(first|refine zQ ?_|refine zF h1 ?_|fail)
 refine qaf l.length (fun i=>⟨[(16,.int .i64 i),(15,.int .i64 l.length),(14,.sl (l.map encCut)),(2,.op 0 0 0),(4,.op 1 0 0),(5,.op 2 0 0)],[(0,⟨12,true,[encSite s]⟩),(1,⟨6,false,[[.int .i64 0,.int .i64 0,.int .i64 0,.int .i64 0,.int .i64 0,.nilsl]]⟩),(2,⟨6,false,[encGrid (qeu s l i)]⟩)],96,29⟩) (fun i=>True) ?_ trivial ?_
 ·exact qaa (nx:=96) (k:=0) (ns:=[]) (ks:=[16,15,14,2,4,5]) [(0,0),(32,1),(128,2)] rfl (by simp) (by kernel_rfl)
 intro i hi _
 have hok:=qpa hs hl i
 by_cases hL:i<l.length
 ·have h2:=qf4 s hs.bed (qeu s l i) hok l[i] (hl i hL)
  rw[←qfr hL]at h2
  generalize qeu s l (i+1)=g2 at*
  generalize qeu s l i=g1 at*
  generalize qcd s g1 l[i]=lc at*
  repeat'(first|refine zQ ?_|refine zF h2 ?_|(refine zI ?_;intro hlt)|(refine zC ?_ ?_<;>first|intro h|simp)|fail)
  all_goals first
   |exact absurd hL (by omega)
   |exact⟨hL,trivial,qaa (nx:=96) (k:=0) (ns:=[]) (ks:=[16,15,14,2,4,5]) [(0,0),(1,1),(2,2)] rfl (by simp) (by kernel_rfl)⟩
   |trace_state
 ·obtain rfl:i=l.length:=by omega
  generalize qeu s l l.length=g1 at*
  repeat'(first|refine zQ ?_|(refine zI ?_;intro hlt)|(refine zC ?_ ?_<;>first|intro h|simp)|fail)
  all_goals first
   |exact absurd (show l.length<l.length by omega) hL
   |exact qkw rfl rfl rfl
   |trace_state
theorem qFU(s:Site)(hs:OkSite s)(l:List Cut)(hll:l.length≤1000000)(hl:∀i (hi:i<l.length),OkCut s l[i])(n:Nat)(hn:n≤l.length):Contract Tryz.prog 59 [.agg (encSite s),.sl (l.map encCut),.int .i64 n] (.ret (.agg (encGrid (qeu s l n)))):=by
 have hsm:=hs.bed.small
 have h1:Contract Tryz.prog 79 [.agg (encGrid s.bed)] (.ret (.agg (encGrid s.bed))):=qE4 qvS (c91 s.bed (by omega))
 refine zT mix Tryz.func59 Tryz.ntmps59 Tryz.results59 rfl rfl rfl ?_;simp only[qac,Nat.reduceAdd]
 repeat'(first|refine zQ ?_|refine zF h1 ?_|fail)
 refine qaf n (fun i=>⟨[(8,.int .i64 i),(2,.int .i64 n),(1,.sl (l.map encCut)),(3,.op 0 0 0),(6,.op 1 0 0),(7,.op 2 0 0)],[(0,⟨12,true,[encSite s]⟩),(1,⟨6,false,[[.int .i64 0,.int .i64 0,.int .i64 0,.int .i64 0,.int .i64 0,.nilsl]]⟩),(2,⟨6,false,[encGrid (qeu s l i)]⟩)],96,25⟩) (fun i=>True) ?_ trivial ?_
 ·exact qaa (nx:=96) (k:=0) (ns:=[]) (ks:=[8,2,1,3,6,7]) [(0,0),(32,1),(160,2)] rfl (by simp) (by kernel_rfl)
 intro i hi _
 have hok:=qpa hs hl i
 by_cases hL:i<n
 ·have hL2:i<l.length:=by omega
  have h2:=qf5 s hs.bed (qeu s l i) hok l[i] (hl i hL2)
  rw[←qfr hL2]at h2
  generalize qeu s l (i+1)=g2 at*
  generalize qeu s l i=g1 at*
  repeat'(first|refine zQ ?_|refine zF h2 ?_|(refine zI ?_;intro hlt)|(refine zC ?_ ?_<;>first|intro h|simp)|fail)
  all_goals first
   |exact absurd hL (by omega)
   |exact⟨hL,trivial,qaa (nx:=96) (k:=0) (ns:=[]) (ks:=[8,2,1,3,6,7]) [(0,0),(1,1),(2,2)] rfl (by simp) (by kernel_rfl)⟩
   |trace_state
 ·obtain rfl:i=n:=by omega
  generalize qeu s l i=g1 at*
  repeat'(first|refine zQ ?_|(refine zI ?_;intro hlt)|(refine zC ?_ ?_<;>first|intro h|simp)|fail)
  all_goals first
   |exact absurd (show i<i by omega) hL
   |exact qkw rfl rfl rfl
   |trace_state
def qFV(s:Site)(l:List Cut)(n:Int):Grid×Int:=if qde s l≠0 then(qna,qde s l)else if 0≤n∧n≤l.length then(qeu s l n.toNat,0)else(qna,2)
theorem qFW(s:Site)(hz:Sized s)(hd:s.dreds.length<1000000000000)(l:List Cut)(hl:l.length≤9223372036854775807)(n:Int):Contract Tryz.prog 39 [.agg (encSite s),.sl (l.map encCut),.int .i64 n] (.ret (.tup [.agg (encGrid (qFV s l n).1),.int .i64 (qFV s l n).2])):=by
 have h1:=qcm s hz l hl hd
 unfold qFV
 by_cases h0:qde s l=0
 rotate_left
 ·rw[if_pos h0]
  generalize qde s l=q at*
  refine zT mix Tryz.func39 Tryz.ntmps39 Tryz.results39 rfl rfl rfl ?_;simp only[qac,Nat.reduceAdd]
  repeat'(first|refine zQ ?_|refine zF h1 ?_|(refine zC ?_ ?_<;>first|intro h|simp)|fail)
  all_goals first
   |exact qcs rfl rfl rfl rfl
   |(exfalso;omega)
   |trace_state
 rw[if_neg (not_not_intro h0)]
 rw[h0]at h1
 obtain⟨hll,hl2⟩:=qfp h0
 have hs:=(qd4 h0).1
 by_cases hn:0≤n∧n≤l.length
 ·rw[if_pos hn]
  obtain⟨k,rfl⟩:=Int.eq_ofNat_of_zero_le hn.1
  have hk:k≤l.length:=by omega
  have h2:=qno s hs (l.take k) (by rw[List.length_take];omega) (fun i hi=>by
   rw[List.getElem_take];exact hl2 i (by rw[List.length_take]at hi;omega))
  rw[qr4 _ (by rw[List.length_take];omega),show(l.take k).length=k by rw[List.length_take];omega]at h2
  simp only[Int.toNat_natCast]
  generalize qeu s l k=g at*
  refine zT mix Tryz.func39 Tryz.ntmps39 Tryz.results39 rfl rfl rfl ?_;simp only[qac,Nat.reduceAdd]
  repeat'(first|((with_reducible apply qad);rfl;(exact qlq _ _ _);rfl)|refine zQ ?_|refine zF h1 ?_|refine zF h2 ?_|(refine zC ?_ ?_<;>first|intro h|simp)|fail)
  all_goals first
   |exact qcs rfl rfl rfl rfl
   |(exfalso;omega)
   |trace_state
 ·rw[if_neg hn]
  refine zT mix Tryz.func39 Tryz.ntmps39 Tryz.results39 rfl rfl rfl ?_;simp only[qac,Nat.reduceAdd]
  repeat'(first|((with_reducible apply qad);rfl;(exact qlq _ _ _);rfl)|refine zQ ?_|refine zF h1 ?_|(refine zC ?_ ?_<;>first|intro h|simp)|fail)
  all_goals first
   |exact qcs rfl rfl rfl rfl
   |(exfalso;omega)
   |trace_state
theorem qyI(m:Grid)(i k n:Nat)(hk:k<n):(qbo m i n).any (fun x=>decide ((k:Int)=x))=qdr m i k:=by
 cases hb:qdr m i k
 ·refine Bool.eq_false_iff.2 fun h=>?_
  obtain⟨x,hx,hkx⟩:=List.any_eq_true.1 h
  have hkx:(k:Int)=x:=by simpa using hkx
  subst hkx
  obtain⟨j,h1,h2,h3⟩:=(qeZ m i _ n).1 hx
  have:k=j:=by omega
  subst this
  rw[hb]at h3
  cases h3
 ·exact List.any_eq_true.2 ⟨(k:Int),(qeZ m i _ n).2 ⟨k,hk,rfl,hb⟩,by simp⟩
def qcK(g:Ground)(m:Grid)(a b:Int):Int×Int:=
 if qa3 g [m]≠0 then(0,qa3 g [m])else if ¬((0≤a∧a<m.levels.length)∧0≤b∧b<m.levels.length)then(0,6)
 else if qdr m a.toNat b.toNat=true then(qbE g m a.toNat b.toNat,0)else(0,3)
theorem c58(g:Ground)(hs:g.soils.length<1000000000000)(hb:g.borings.length<1000000000000)(m:Grid)(hl:m.levels.length<1000000000000)(a b:Int):
  Contract Tryz.prog 149 [.agg (qam g),.agg (encGrid m),.int .i64 a,.int .i64 b] (.ret (.tup [.int .i64 (qcK g m a b).1,.int .i64 (qcK g m a b).2])):=by
 have h93:=c93 g hs hb [m] (by simp) (by simpa using hl)
 by_cases h:qa3 g [m]=0
 ·obtain⟨h1,h2⟩:=qrD h
  have hm:=qfx h2
  have hg:=okG h1
  rw[h]at h93
  by_cases hr:(0≤a∧a<m.levels.length)∧0≤b∧b<m.levels.length
  ·obtain⟨i,rfl⟩:=Int.eq_ofNat_of_zero_le hr.1.1
   obtain⟨k,rfl⟩:=Int.eq_ofNat_of_zero_le hr.2.1
   have hi:i<m.levels.length:=by omega
   have hk:k<m.levels.length:=by omega
   have hsm:=hm.small
   have hnl:=qeo m i m.levels.length
   have e:qcK g m i k=if qdr m i k=true then(qbE g m i k,0)else(0,3):=by
    unfold qcK;rw[if_neg (by simp[h]),if_neg (by omega)];rfl
   have h109:=qIg (qbo m i m.levels.length) (by omega) k
   rw[qyI m i k _ hk]at h109
   rw[e]
   refine zT mix Tryz.func149 Tryz.ntmps149 Tryz.results149 rfl rfl rfl ?_;simp only[qac,Nat.reduceAdd]
   repeat'(first|((with_reducible (show qan _ (.call _) _ _ _ _));first|((with_reducible apply qad);rfl;(exact qBU _ _ _);rfl)|((with_reducible apply(qhI (cs:=encGrid m)));rfl;(exact c94 g hg hs m hm h2);(exact qbw);rfl;rfl;rfl;rfl;rfl)|((with_reducible apply qdC);(exact qmP (cs:=encGrid m) rfl (by simp) rfl rfl rfl);(exact qIe g m hm h2 i hi);(exact qbw);rfl)|((with_reducible apply qad);(exact qbD rfl (by simp) rfl);(exact h109);rfl)|((with_reducible apply qaj);(exact qmP (cs:=encGrid m) rfl (by simp;try assumption) rfl rfl rfl);(exact qIf g hg m hm i k hi hk);rfl))|refine zQ ?_|refine zF h93 ?_|(refine zC ?_ ?_<;>first|intro h|simp)|(refine zG ?_ ?_<;>first|intro h|simp)|refine zE ?_|fail)
   all_goals first
    |(exfalso;omega)
    |(rw[if_pos ‹qdr m i k=true›];rfl)
    |(rw[if_neg (by rw[‹qdr m i k=false›];simp)];rfl)
  ·have e:qcK g m a b=(0,6):=by
    unfold qcK;rw[if_neg (by simp[h]),if_pos hr]
   rw[e]
   refine zT mix Tryz.func149 Tryz.ntmps149 Tryz.results149 rfl rfl rfl ?_;simp only[qac,Nat.reduceAdd]
   repeat'(first|((with_reducible apply qad);rfl;(exact qBU _ _ _);rfl)|refine zQ ?_|refine zF h93 ?_|(refine zC ?_ ?_<;>first|intro h|simp)|(refine zG ?_ ?_<;>first|intro h|simp)|refine zE ?_|fail)
   all_goals first
    |(exfalso;omega)
    |rfl
 ·have e:qcK g m a b=(0,qa3 g [m]):=by
   unfold qcK;rw[if_pos h]
  rw[e]
  refine zT mix Tryz.func149 Tryz.ntmps149 Tryz.results149 rfl rfl rfl ?_;simp only[qac,Nat.reduceAdd]
  repeat'(first|refine zQ ?_|refine zF h93 ?_|(refine zC ?_ ?_<;>first|intro h|simp)|refine zE ?_|fail)
  all_goals first
   |rfl
   |exact absurd ‹qa3 g [m]=0› h
   |(exfalso;omega)
instance qJX:TEq Tryz.prog 113 [.i,.i,.i]:=⟨by kernel_rfl⟩
end Go.Pv.Soil

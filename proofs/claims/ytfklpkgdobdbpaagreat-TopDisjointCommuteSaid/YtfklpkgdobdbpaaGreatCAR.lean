import Derived.Test.YtfklpkgdobdbpaaGreatCAN
import Derived.Test.YtfklpkgdobdbpaaGreatCAO
import Derived.Test.YtfklpkgdobdbpaaGreatCAQ
/- Part of the proofs over YtfklpkgdobdbpaaGreat: N8, N20. -/
set_option linter.unusedVariables false
set_option linter.unusedSimpArgs false
set_option linter.unnecessarySimpa false
open Go Go.Proofs Go.Pv
set_option maxHeartbeats 8000000
set_option maxRecDepth 100000
set_option linter.unusedSimpArgs false
set_option linter.unusedVariables false
namespace Go.Pv.Soil
theorem qhg{l:List Gauge}{i:Nat}(hi:i<l.length):qvq l i=if qaS l[i].name=false then 4 else if((l.take i).any fun h=>decide (h.name=l[i].name))=true then 5 else if qnC l[i]≠0 then qnC l[i]else if 0<i∧l[i].x≤((l[i-1]?).map (·.x)).getD 0 then 9 else 0:=by
 simp only[qvq,List.getElem?_eq_getElem hi]
theorem qzo{l:List Gauge}{i:Nat}(hi:i<l.length)(h:qaS l[i].name=false):qvq l i=4:=by rw[qhg hi,if_pos h]
theorem qzp{l:List Gauge}{i:Nat}(hi:i<l.length)(h:qaS l[i].name=true)(h2:((l.take i).any fun h=>decide (h.name=l[i].name))=true):qvq l i=5:=by rw[qhg hi,if_neg (by simp[h]),if_pos h2]
theorem qro{l:List Gauge}{i:Nat}(hi:i<l.length)(h:qaS l[i].name=true)(h2:((l.take i).any fun h=>decide (h.name=l[i].name))=false)(h3:qnC l[i]≠0):qvq l i=qnC l[i]:=by rw[qhg hi,if_neg (by simp[h]),if_neg (by simp[h2]),if_pos h3]
theorem qzq{l:List Gauge}{i:Nat}(hi:i<l.length)(h:qaS l[i].name=true)(h2:((l.take i).any fun h=>decide (h.name=l[i].name))=false)(h3:qnC l[i]=0)(h0:0<i)(h1:l[i].x≤(l[i-1]'(by omega)).x):qvq l i=9:=by
 rw[qhg hi,if_neg (by simp[h]),if_neg (by simp[h2]),if_neg (not_not_intro h3),if_pos ⟨h0,by rw[List.getElem?_eq_getElem (by omega)];exact h1⟩]
theorem qrp{l:List Gauge}{i:Nat}(hi:i<l.length)(h:qaS l[i].name=true)(h2:((l.take i).any fun h=>decide (h.name=l[i].name))=false)(h3:qnC l[i]=0)(h1:i=0∨∃h:i-1<l.length,¬l[i].x≤l[i-1].x):qvq l i=0:=by
 rw[qhg hi,if_neg (by simp[h]),if_neg (by simp[h2]),if_neg (not_not_intro h3),if_neg]
 rintro⟨h5,h6⟩
 rcases h1 with h1|⟨h4,h1⟩
 ·omega
 ·rw[List.getElem?_eq_getElem h4]at h6;exact h1 h6
theorem qoC{l:List Gauge}(h:6<l.length):8=qb3 l:=by unfold qb3;rw[if_pos h]
theorem qoD{l:List Gauge}(h:¬6<l.length):qb3 l=qct l.length (qvq l):=by unfold qb3;rw[if_neg h]
theorem qCU(h g:Gauge):Contract Tryz.prog 170 [.agg (qat h),.ptr (qat g)] (.ret (.bool (decide (h.name=g.name)))):=by
 refine zT mix Tryz.func170 Tryz.ntmps170 Tryz.results170 rfl rfl rfl ?_;simp only[qac,Nat.reduceAdd]
 repeat'(first|(with_reducible rfl)|refine zQ ?_|((with_reducible apply qaG);rfl;rfl)|refine zE ?_|fail)
theorem qhV(l:List Gauge)(hl:l.length≤9223372036854775807)(hml:∀g∈l,g.marks.length≤9223372036854775807):Contract Tryz.prog 94 [.sl (l.map qat)] (.ret (.int .i64 (qb3 l))):=by
 refine zT mix Tryz.func94 Tryz.ntmps94 Tryz.results94 rfl rfl rfl ?_;simp only[qac,Nat.reduceAdd]
 repeat'(first|refine zQ ?_|(refine zC ?_ ?_<;>first|intro h|simp)|refine zE ?_|fail)
 ·exact qoC (by omega)
 rw[qoD (by omega)]
 refine qaf l.length (fun i=>⟨[(11,.int .i64 i),(9,.sl (l.map qat)),(10,.int .i64 l.length),(0,.sl (l.map qat))],[],32,44⟩) (fun i=>∀j,j<i→qvq l j=0) (qaa (nx:=32) (k:=0) (ns:=[]) (ks:=[11,9,10,0]) [] rfl (by simp) (by kernel_rfl)) (by omega) ?_
 intro i hi hC
 by_cases hL:i<l.length
 rotate_left
 ·repeat'(first|refine zQ ?_|(refine zI ?_;intro hlt)|(refine zC ?_ ?_<;>first|intro h|simp)|refine zE ?_|fail)
  all_goals first
   |exact absurd hL (by omega)
   |exact(qaB fun j hj=>hC j (by omega)).symm
   |trace_state
 have h1:=qAN l[i].name
 by_cases hn:qaS l[i].name=true
 rotate_left
 ·have hn':qaS l[i].name=false:=by simpa using hn
  rw[hn']at h1
  repeat'(first|refine zQ ?_|refine zF h1 ?_|(refine zI ?_;intro hlt)|(refine zC ?_ ?_<;>first|intro h|simp)|refine zE ?_|fail)
  all_goals first
   |exact absurd hL (by omega)
   |exact qaq hL hC (qzo hL hn') (by decide)
   |trace_state
 rw[hn]at h1
 have h2:=qAM (l.take i) (by rw[List.length_take];omega) 170 [.ptr (qat l[i])] (fun _ _=>rfl) rfl (fun h=>decide (h.name=l[i].name)) fun x _=>qCU x l[i]
 have h3:=qx6 l[i] (hml _ (List.getElem_mem _))
 by_cases ha:((l.take i).any fun y=>decide (y.name=l[i].name))=true
 ·rw[ha]at h2
  repeat'(first|refine zQ ?_|refine zF h1 ?_|refine zF h2 ?_|(refine zI ?_;intro hlt)|(refine zC ?_ ?_<;>first|intro h|simp)|refine zE ?_|fail)
  all_goals first
   |exact absurd hL (by omega)
   |exact qaq hL hC (qzp hL hn ha) (by decide)
   |trace_state
 have ha':((l.take i).any fun y=>decide (y.name=l[i].name))=false:=by simpa using ha
 rw[ha']at h2
 by_cases h0:0<i
 ·have hp:=qjF h0
  repeat'(first|refine zQ ?_|refine zF h1 ?_|refine zF h2 ?_|refine zF h3 ?_|(refine zI ?_;intro hlt)|(refine zC ?_ ?_<;>first|intro h|simp)|(refine zG ?_ ?_<;>first|intro h|simp)|refine zE ?_|fail)
  all_goals try simp only[hp]at*
  all_goals first
   |exact absurd hL (by omega)
   |exact absurd h0 (by omega)
   |exact qaq hL hC (qro hL hn ha' (by assumption)) (by assumption)
   |exact qaq hL hC (qzq hL hn ha' (by assumption) h0 (by assumption)) (by decide)
   |(refine⟨hL,qaJ hC (qrp hL hn ha' (by assumption) (.inr ⟨by omega,by assumption⟩)),qaa (nx:=32) (k:=0) (ns:=[]) (ks:=[11,9,10,0]) [] rfl (by simp) (by kernel_rfl)⟩)
   |trace_state
 ·repeat'(first|refine zQ ?_|refine zF h1 ?_|refine zF h2 ?_|refine zF h3 ?_|(refine zI ?_;intro hlt)|(refine zC ?_ ?_<;>first|intro h|simp)|(refine zG ?_ ?_<;>first|intro h|simp)|refine zE ?_|fail)
  all_goals first
   |exact absurd hL (by omega)
   |exact absurd (show 0<i by omega) h0
   |exact qaq hL hC (qro hL hn ha' (by assumption)) (by assumption)
   |(refine⟨hL,qaJ hC (qrp hL hn ha' (by assumption) (.inl (by omega))),qaa (nx:=32) (k:=0) (ns:=[]) (ks:=[11,9,10,0]) [] rfl (by simp) (by kernel_rfl)⟩)
   |trace_state
theorem qm6(l:List Gauge)(hl:l.length≤9223372036854775807)(hml:∀g∈l,g.marks.length≤9223372036854775807):Contract Tryz.prog 101 [.sl (l.map qat)] (.ret (.int .i64 (qb3 l))):=by
 refine zT mix Tryz.func101 Tryz.ntmps101 Tryz.results101 rfl rfl rfl ?_;simp only[qac,Nat.reduceAdd]
 repeat'(first|refine zQ ?_|(refine zC ?_ ?_<;>first|intro h|simp)|refine zE ?_|fail)
 ·exact qoC (by omega)
 rw[qoD (by omega)]
 refine qaf l.length (fun i=>⟨[(3,.int .i64 i),(0,.sl (l.map qat))],[],32,62⟩) (fun i=>∀j,j<i→qvq l j=0) (qaa (nx:=32) (k:=0) (ns:=[]) (ks:=[3,0]) [] rfl (by simp) (by kernel_rfl)) (by omega) ?_
 intro i hi hC
 by_cases hL:i<l.length
 rotate_left
 ·repeat'(first|refine zQ ?_|(refine zI ?_;intro hlt)|(refine zC ?_ ?_<;>first|intro h|simp)|refine zE ?_|fail)
  all_goals first
   |exact absurd hL (by omega)
   |exact(qaB fun j hj=>hC j (by omega)).symm
   |trace_state
 have h1:=c83 l[i].name
 by_cases hn:qaS l[i].name=true
 rotate_left
 ·have hn':qaS l[i].name=false:=by simpa using hn
  rw[hn']at h1
  repeat'(first|refine zQ ?_|refine zF h1 ?_|(refine zI ?_;intro hlt)|(refine zC ?_ ?_<;>first|intro h|simp)|refine zE ?_|fail)
  all_goals first
   |exact absurd hL (by omega)
   |exact qaq hL hC (qzo hL hn') (by decide)
   |trace_state
 rw[hn]at h1
 repeat'(first|refine zQ ?_|refine zF h1 ?_|(refine zI ?_;intro hlt)|(refine zC ?_ ?_<;>first|intro h|simp)|refine zE ?_|fail)
 all_goals try exact absurd hL (by omega)
 refine qaf i (fun k=>⟨[(4,.int .i64 k),(3,.int .i64 i),(0,.sl (l.map qat))],[],32,62⟩) (fun k=>∀j (hj:j<k),¬(l[j]?.map (·.name)=some l[i].name)) (qaa (nx:=32) (k:=0) (ns:=[]) (ks:=[4,3,0]) [] rfl (by simp) (by kernel_rfl)) (by omega) ?_
 intro k hk hK
 by_cases hlk:k<i
 ·have hkl:k<l.length:=by omega
  repeat'(first|refine zQ ?_|(refine zI ?_;intro hlt)|(refine zC ?_ ?_<;>first|intro h|simp)|((with_reducible apply qaG);rfl;rfl)|refine zE ?_|fail)
  all_goals try simp only[Int.toNat_natCast]at*
  all_goals first
   |exact absurd hlk (by omega)
   |exact qaq hL hC (qzp hL hn (qhT hlk hkl (by assumption))) (by decide)
   |(refine⟨by omega,qf0 hkl hK (by assumption),qaa (nx:=32) (k:=0) (ns:=[]) (ks:=[4,3,0]) [] rfl (by simp) (by kernel_rfl)⟩)
   |trace_state
 ·obtain rfl:k=i:=by omega
  have ha':=qkJ hK
  have h3:=qx7 l[k] (hml _ (List.getElem_mem _))
  by_cases h0:0<k
  ·have hp:=qjF h0
   repeat'(first|refine zQ ?_|refine zF h3 ?_|(refine zI ?_;intro hlt)|(refine zC ?_ ?_<;>first|intro h|simp)|(refine zG ?_ ?_<;>first|intro h|simp)|((with_reducible apply qaG);rfl;rfl)|refine zE ?_|fail)
   all_goals try simp only[hp,Int.toNat_natCast]at*
   all_goals first
    |exact absurd (show k<k by omega) hlk
    |exact absurd h0 (by omega)
    |exact qaq hL hC (qro hL hn ha' (by assumption)) (by assumption)
    |exact qaq hL hC (qzq hL hn ha' (by assumption) h0 (by assumption)) (by decide)
    |(refine⟨hL,qaJ hC (qrp hL hn ha' (by assumption) (.inr ⟨by omega,by assumption⟩)),qaa (nx:=32) (k:=0) (ns:=[]) (ks:=[3,0]) [] rfl (by simp) (by kernel_rfl)⟩)
    |trace_state
  ·repeat'(first|refine zQ ?_|refine zF h3 ?_|(refine zI ?_;intro hlt)|(refine zC ?_ ?_<;>first|intro h|simp)|(refine zG ?_ ?_<;>first|intro h|simp)|((with_reducible apply qaG);rfl;rfl)|refine zE ?_|fail)
   all_goals first
    |exact absurd (show k<k by omega) hlk
    |exact absurd (show 0<k by omega) h0
    |exact qaq hL hC (qro hL hn ha' (by assumption)) (by assumption)
    |(refine⟨hL,qaJ hC (qrp hL hn ha' (by assumption) (.inl (by omega))),qaa (nx:=32) (k:=0) (ns:=[]) (ks:=[3,0]) [] rfl (by simp) (by kernel_rfl)⟩)
    |trace_state
theorem qrV{α:Type}{f:α→Int}{l:List α}(h:∀i,0<i→∀hi:i<l.length,f (l[i-1]'(by omega))<f l[i]):l.Pairwise fun x y=>f x<f y:=by
 refine List.pairwise_iff_getElem.2 fun i j hi hj hij=>?_
 have key:∀d,∀hd:i+1+d<l.length,f l[i]<f l[i+1+d]:=fun d=>by
  induction d with
  |zero=>exact fun hd=>by simpa using h (i+1) (by omega) hd
  |succ d ih=>
   intro hd
   have h1:=ih (by omega)
   have h2:=h (i+1+(d+1)) (by omega) hd
   simp only[show i+1+(d+1)-1=i+1+d by omega]at h2
   omega
 have:=key (j-i-1) (by omega)
 simpa only[show i+1+(j-i-1)=j by omega]using this
structure OkGauge(g:Gauge):Prop where
 x: -1000000≤g.x∧g.x≤1000000
 e:0≤g.err∧g.err≤1000
 l:g.marks.length≤400
 m:∀i (h:i<g.marks.length),(0≤g.marks[i].minute∧g.marks[i].minute≤1000000)∧(-20000≤g.marks[i].level∧g.marks[i].level≤20000)
 a:g.marks.Pairwise fun x y=>x.minute<y.minute
theorem qBk{g:Gauge}(h:qnC g=0):OkGauge g:=by
 unfold qnC at h
 split at h
 ·omega
 ·rename_i h1
  have h1:=Classical.not_not.1 h1
  split at h
  ·omega
  ·have hs:=qdq h
   refine⟨h1.1,h1.2,by omega,fun i hi=>?_,qrV (f:=Mark.minute) fun i h0 hi=>?_⟩
   ·have:=hs i hi
    rw[qhU hi]at this
    split at this
    ·omega
    ·rename_i hm
     rw[Bool.not_eq_false]at hm
     exact of_decide_eq_true hm
   ·have:=hs i hi
    rw[qhU hi]at this
    split at this
    ·omega
    ·split at this
     ·omega
     ·rename_i h3
      rw[List.getElem?_eq_getElem (by omega)]at h3
      simp only[Option.map_some,Option.getD_some]at h3
      omega
structure OkGauges(l:List Gauge):Prop where
 len:l.length≤6
 gs:∀i (h:i<l.length),OkGauge l[i]
 asc:l.Pairwise fun x y=>x.x<y.x
theorem qjJ{l:List Gauge}(h:qb3 l=0):OkGauges l:=by
 unfold qb3 at h
 split at h
 ·omega
 ·have hs:=qdq h
  refine⟨by omega,fun i hi=>?_,qrV (f:=Gauge.x) fun i h0 hi=>?_⟩
  ·have:=hs i hi
   rw[qhg hi]at this
   split at this
   ·omega
   ·split at this
    ·omega
    ·split at this
     ·contradiction
     ·rename_i h3;exact qBk (Classical.not_not.1 h3)
  ·have:=hs i hi
   rw[qhg hi]at this
   split at this
   ·omega
   ·split at this
    ·omega
    ·split at this
     ·contradiction
     ·split at this
      ·omega
      ·rename_i h3
       rw[List.getElem?_eq_getElem (by omega)]at h3
       simp only[Option.map_some,Option.getD_some]at h3
       omega
theorem qzF{a b:Int}(hb:0<b):(if a.tmod b<0 then a.tdiv b-1 else a.tdiv b)=a/b:=by
 have h1:=Int.mul_ediv_add_emod a b
 have h2:=Int.emod_nonneg a (show b≠0 by omega)
 have h3:=Int.emod_lt_of_pos a hb
 have h4:=Int.mul_tdiv_add_tmod a b
 have h5: -b<a.tmod b∧a.tmod b<b:=⟨(qjE hb).2.1,(qjE hb).2.2⟩
 have h6:=(qjE (n:=a) hb).1
 split
 ·rename_i hn
  have e:b*(a/b)=b*(a.tdiv b-1):=by
   have e1:a%b=a.tmod b+b:=by rw[h6,←Int.add_emod_right,Int.emod_eq_of_lt (by omega) (by omega)]
   rw[Int.mul_sub,Int.mul_one];omega
  exact(Int.eq_of_mul_eq_mul_left (by omega) e).symm
 ·have e:b*(a/b)=b*a.tdiv b:=by
   have e1:a%b=a.tmod b:=by rw[h6];exact Int.emod_eq_of_lt (by omega) (by omega)
   omega
  exact(Int.eq_of_mul_eq_mul_left (by omega) e).symm
theorem qwf(a b:Int)(hb:0<b)(ha: -9000000000000000000≤a∧a≤9000000000000000000):Contract Tryz.prog 301 [.int .i64 a,.int .i64 b] (.ret (.int .i64 (a/b))):=by
 have e:=qzF (a:=a) hb
 have hq: -9000000000000000000≤a.tdiv b∧a.tdiv b≤9000000000000000000:=by
  rcases Int.le_total 0 a with h|h
  ·have:=qeR h hb;omega
  ·have:=qeR (a:= -a) (b:=b) (by omega) hb;rw[Int.neg_tdiv]at this;omega
 refine zT mix Tryz.func301 Tryz.ntmps301 Tryz.results301 rfl rfl rfl ?_;simp only[qac,Nat.reduceAdd]
 repeat'(first|refine zQ ?_|(refine zC ?_ ?_<;>first|intro h|simp)|refine zE ?_|fail)
 all_goals first
  |(rw[←e,if_pos (by assumption)];done)
  |(rw[←e,if_neg (by assumption)];done)
  |trace_state
theorem qwg(a b:Int)(hb:0<b)(ha: -9000000000000000000≤a∧a≤9000000000000000000):Contract Tryz.prog 280 [.int .i64 a,.int .i64 b] (.ret (.int .i64 (a/b))):=by
 have e:=qzF (a:=a) hb
 have hq: -9000000000000000000≤a.tdiv b∧a.tdiv b≤9000000000000000000:=by
  rcases Int.le_total 0 a with h|h
  ·have:=qeR h hb;omega
  ·have:=qeR (a:= -a) (b:=b) (by omega) hb;rw[Int.neg_tdiv]at this;omega
 refine zT mix Tryz.func280 Tryz.ntmps280 Tryz.results280 rfl rfl rfl ?_;simp only[qac,Nat.reduceAdd]
 repeat'(first|refine zQ ?_|(refine zC ?_ ?_<;>first|intro h|simp)|refine zE ?_|fail)
 all_goals first
  |(rw[←e,if_pos (by assumption)];done)
  |(rw[←e,if_neg (by assumption)];done)
  |trace_state
theorem qgR{a b B:Int}(hb:0<b)(ha: -B≤a∧a≤B)(hB:0≤B): -B≤a/b∧a/b≤B:=by
 refine⟨(Int.le_ediv_iff_mul_le hb).2 ?_,?_⟩
 ·have:=Int.mul_le_mul_of_nonneg_left (show(1:Int)≤b by omega) hB
  rw[Int.neg_mul];omega
 ·have:a/b<B+1:=Int.ediv_lt_of_lt_mul hb (by
   have:=Int.mul_le_mul_of_nonneg_left (show(1:Int)≤b by omega) (show(0:Int)≤B+1 by omega)
   omega)
  omega
theorem qDd(a b:Int)(hb:0<b)(ha: -9000000000000000000≤a∧a≤9000000000000000000):Contract Tryz.prog 302 [.int .i64 a,.int .i64 b] (.ret (.int .i64 (-(-a/b)))):=by
 have hf:=qwf (-a) b hb (by omega)
 have h2:=qgR (a:= -a) (b:=b) (B:=9000000000000000000) hb (by omega) (by omega)
 have e0:(0:Int)-a= -a:=by omega
 rw[←e0]at hf h2 ⊢
 refine zT mix Tryz.func302 Tryz.ntmps302 Tryz.results302 rfl rfl rfl ?_;simp only[qac,Nat.reduceAdd]
 repeat'(first|refine zQ ?_|refine zF hf ?_|refine zE ?_|fail)
 all_goals first|omega|trace_state
theorem qDe(a b:Int)(hb:0<b)(ha: -9000000000000000000≤a∧a≤9000000000000000000):Contract Tryz.prog 281 [.int .i64 a,.int .i64 b] (.ret (.int .i64 (-(-a/b)))):=by
 have hf:=qwg (-a) b hb (by omega)
 have h2:=qgR (a:= -a) (b:=b) (B:=9000000000000000000) hb (by omega) (by omega)
 have e0:(0:Int)-a= -a:=by omega
 rw[←e0]at hf h2 ⊢
 refine zT mix Tryz.func281 Tryz.ntmps281 Tryz.results281 rfl rfl rfl ?_;simp only[qac,Nat.reduceAdd]
 repeat'(first|refine zQ ?_|refine zF hf ?_|refine zE ?_|fail)
 all_goals first|omega|trace_state
end Go.Pv.Soil

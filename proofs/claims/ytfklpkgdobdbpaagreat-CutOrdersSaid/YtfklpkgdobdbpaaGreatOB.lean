import Derived.Test.YtfklpkgdobdbpaaGreatCBW
import Derived.Test.YtfklpkgdobdbpaaGreatOA
/- Part of the proofs. -/
set_option linter.unusedVariables false
set_option linter.unusedSimpArgs false
set_option linter.unnecessarySimpa false
open Go Go.Proofs Go.Pv
set_option maxHeartbeats 8000000
set_option maxRecDepth 100000
namespace Go.Pv.Soil
def qEe(b:List (Int×List Int))(v:Int):Bool:=b.any fun x=>decide (x.1=v)
theorem qDW{b:List (Int×List Int)}{v:Int}{j:Nat}(hj:j<b.length)(h:b[j].1=v):true=qEe b v:=(List.any_eq_true.2 ⟨_,List.getElem_mem hj,decide_eq_true h⟩).symm
structure IsPr(n:Nat)(R:Nat→Nat→Int)(b:List (Int×List Int)):Prop where
 ne:0<b.length
 z:∀h:0<b.length,b[0].1=0
 up:∀i (h:i<b.length),0<i→b[i-1].1<b[i].1
 lt:∀i (h:i<b.length),b[i].1<((2^n:Nat):Int)-1
 len:∀i (h:i<b.length),b[i].2.length=n
 row:∀i (h:i<b.length) k (hk:k<b[i].2.length),k<n→b[i].2[k]=R b[i].1.toNat k
 cl:∀i (h:i<b.length) k,k<n→Ord.nx R b[i].1.toNat k=true→qEe b (b[i].1+((2^k:Nat):Int))=true
open Classical in
noncomputable def qeO(n:Nat)(R:Nat→Nat→Int)(b:List (Int×List Int)):Bool:=decide (IsPr n R b)
theorem qrO{n:Nat}{R:Nat→Nat→Int}{b:List (Int×List Int)}(h:¬IsPr n R b):qeO n R b=false:=by simp[qeO,h]
theorem qtY{n:Nat}{R:Nat→Nat→Int}{b:List (Int×List Int)}(h:IsPr n R b):qeO n R b=true:=by simp[qeO,h]
theorem qe3{b:List (Int×List Int)}(hz:∀h:0<b.length,b[0].1=0):∀m,(∀i (h:i<b.length),i<m→0<i→b[i-1].1<b[i].1)→∀i (h:i<b.length),i<m→0≤b[i].1:=by
 intro m hup i
 induction i with
 |zero=>intro h _;rw[hz h];omega
 |succ i ih=>
  intro h hm
  have h1:=ih (by omega) (by omega)
  have h2:=hup (i+1) h hm (by omega)
  simp only[Nat.add_sub_cancel]at h2
  omega
def toI(c:List (Nat×List Int)):List (Int×List Int):=c.map fun x=>((x.1:Int),x.2)
theorem qd8{c:List (Nat×List Int)}{j:Nat}(h:j<(toI c).length):(toI c)[j]=(((c[j]'(by simpa[toI]using h)).1:Int),(c[j]'(by simpa[toI]using h)).2):=List.getElem_map _
def qoF(c:List (Nat×List Int))(t k:Nat):Bool:=qEe (toI c) ((t:Int)+((2^k:Nat):Int))
theorem qAV(a b:List Int)(ha:a.length≤9223372036854775807)(hb:b.length≤1000000):Contract Tryz.prog 195 [.sl (a.map qal),.sl (b.map qal)] (.ret (.bool (decide (a=b)))):=by
 refine zT mix Tryz.func195 Tryz.ntmps195 Tryz.results195 rfl rfl rfl ?_;simp only[qab,Nat.reduceAdd]
 by_cases hl:a.length=b.length
 rotate_left
 ·rw[decide_eq_false fun h=>hl (by rw[h])]
  repeat'(first|(with_reducible rfl)|refine zQ ?_|(refine zC ?_ ?_<;>first|intro h|simp)|refine zE ?_|fail)
  all_goals first|rfl|(exfalso;omega)|trace_state
 repeat'(first|refine zQ ?_|(refine zC ?_ ?_<;>first|intro h|simp)|refine zE ?_|fail)
 all_goals try(exfalso;omega)
 refine qad a.length (fun i=>⟨[(13,.int .i64 i),(12,.int .i64 a.length),(0,.sl (a.map qal)),(1,.sl (b.map qal))],[],0,26⟩) (fun i=>∀j (h1:j<a.length) (h2:j<b.length),j<i→a[j]=b[j]) (qaa (k:=0) (ns:=[]) (ks:=[13,12,0,1]) [] rfl (by simp) rfl) (fun j h1 h2 h=>absurd h (by omega)) ?_
 intro i hi hC
 by_cases hL:i<a.length
 ·have hL2:i<b.length:=by omega
  repeat'(first|refine zQ ?_|(refine zI ?_;intro hlt)|(refine zC ?_ ?_<;>first|intro h|simp)|refine zE ?_|fail)
  all_goals first
   |exact absurd hL (by omega)
   |exact(decide_eq_false fun h=>by subst h;contradiction).symm
   |(refine⟨hL,fun j h1 h2 hj=>?_,qaa (k:=0) (ns:=[]) (ks:=[13,12,0,1]) [] rfl (by simp) rfl⟩
     rcases Nat.lt_succ_iff_lt_or_eq.1 hj with h'|rfl
     ·exact hC j h1 h2 h'
     ·assumption)
   |trace_state
 ·repeat'(first|refine zQ ?_|(refine zI ?_;intro hlt)|(refine zC ?_ ?_<;>first|intro h|simp)|refine zE ?_|fail)
  all_goals first
   |exact absurd hL (by omega)
   |exact(decide_eq_true (List.ext_getElem hl fun j h1 h2=>hC j h1 h2 (by omega))).symm
   |trace_state
theorem qBX{b:List (Int×List Int)}:∀(i:Nat),(∀j (h:j<b.length),j<i+1→0<j→b[j-1].1<b[j].1)→∀(h:i<b.length) j (hj:j<b.length),j<i→b[j].1<b[i].1
 |0,_,_,_,_,h=>absurd h (by omega)
 |i+1,hup,h,j,hj,hji=>by
  have h1:=hup (i+1) h (by omega) (by omega)
  simp only[Nat.add_sub_cancel]at h1
  rcases Nat.lt_succ_iff_lt_or_eq.1 hji with h'|rfl
  ·have:=qBX i (fun k hk hki h0=>hup k hk (by omega) h0) (by omega) j hj h'
   omega
  ·exact h1
theorem qAW(n:Nat)(hn:n≤8)(T:Nat→Nat→Int)(pl:List (List Int))(b:List (Int×List Int))(hb:b.length≤256)(hbr:∀x∈b,x.2.length≤9223372036854775807):Contract Tryz.prog 133 [qeS n (qaX n T (2^n)) pl,.sl (b.map encBlk)] (.ret (.bool (qeO n T b))):=by
 obtain⟨p8,p1⟩:=qy6 hn
 have hno:¬IsPr n T b→qeO n T b=false:=qrO
 have hye:IsPr n T b→qeO n T b=true:=qtY
 have hall:=qAH n hn (qaX n T (2^n)) pl
 generalize qeO n T b=Q at*
 have hrlen:(qaX n T (2^n)).length=2^n:=qfx
 unfold qeS at hall ⊢
 refine zT mix Tryz.func133 Tryz.ntmps133 Tryz.results133 rfl rfl rfl ?_;simp only[qab,Nat.reduceAdd]
 by_cases h0:b.length=0
 ·rw[hno fun h=>absurd h.ne (by omega)]
  repeat'(first|(with_reducible rfl)|refine zQ ?_|(refine zI ?_;intro hlt)|(refine zC ?_ ?_<;>first|intro h|simp)|(refine zG ?_ ?_<;>first|intro h|simp)|refine zE ?_|fail)
  all_goals first|rfl|(exfalso;omega)|trace_state
 by_cases hzz:b[0].1=0
 rotate_left
 ·rw[hno fun h=>hzz (h.z (by omega))]
  repeat'(first|(with_reducible rfl)|refine zQ ?_|(refine zI ?_;intro hlt)|(refine zC ?_ ?_<;>first|intro h|simp)|(refine zG ?_ ?_<;>first|intro h|simp)|refine zE ?_|fail)
  all_goals first|rfl|(exfalso;omega)|(exfalso;exact hzz (by assumption))|trace_state
 repeat'(first|((with_reducible (show evG _ _ (.region 3 _ _) _ _));(with_reducible apply qbM))|((with_reducible apply qdD);rfl)|(with_reducible apply qf2)|(with_reducible apply qcY)|(with_reducible apply qd6)|refine zS ?_|refine zA ?_|(refine zI ?_;intro hlt)|(refine zC ?_ ?_<;>first|intro h|simp)|(refine zG ?_ ?_<;>first|intro h|simp)|refine zE ?_|fail)
 all_goals try(exfalso;omega)
 all_goals try(exfalso;exact absurd hzz (by assumption))
 refine qad b.length (fun i=>⟨[(5,.om 0),(24,.int .i64 i),(23,.int .i64 b.length),(22,.sl (b.map encBlk)),(0,.ptr [.int .i64 n,.sl ((qaX n T (2^n)).map qaJ),.sl (pl.map qaJ)]),(1,.sl (b.map encBlk))],[(0,⟨0,true,(b.take i).map fun x=>[.int .i64 x.1,.bool true]⟩)],32,102⟩) (fun i=>(∀j (h:j<b.length),j<i→0<j→b[j-1].1<b[j].1)∧∀j (h:j<b.length),j<i→b[j].1<((2^n:Nat):Int)-1∧b[j].2=qfA n T b[j].1.toNat) ?_ ⟨fun j h hj=>absurd hj (by omega),fun j h hj=>absurd hj (by omega)⟩ ?_
 ·exact qaa (nx:=32) (k:=0) (ns:=[]) (ks:=[5,24,23,22,0,1]) [(352,0)] rfl (by simp) (by kernel_rfl)
 intro i hi hC
 by_cases hL:i<b.length
 ·have hbi:=hbr b[i] (List.getElem_mem hL)
  have hidx:∀h':((i:Int)-1).toNat<b.length,b[((i:Int)-1).toNat]'h'=b[i-1]'(by omega):=fun h'=>by
   congr 1
   omega
  by_cases hr:0≤b[i].1∧b[i].1<((2^n:Nat):Int)-1
  rotate_left
  ·rw[hno fun h=>hr ⟨qe3 h.z b.length (fun j hj _ h0=>h.up j hj h0) i hL hL,h.lt i hL⟩]
   repeat'(first|(with_reducible rfl)|refine zQ ?_|refine zF hall ?_|(refine zI ?_;intro hlt)|(refine zC ?_ ?_<;>first|intro h|simp)|(refine zG ?_ ?_<;>first|intro h|simp)|refine zE ?_|fail)
   all_goals try simp only[hidx]at*
   all_goals first|rfl|exact absurd hL (by omega)|(exfalso;omega)|trace_state
  by_cases hu:0<i∧b[i].1≤(b[i-1]'(by omega)).1
  ·rw[hno fun h=>by have:=h.up i hL hu.1;omega]
   have hu1:=hu.1
   have hu2:=hu.2
   repeat'(first|(with_reducible rfl)|refine zQ ?_|refine zF hall ?_|(refine zI ?_;intro hlt)|(refine zC ?_ ?_<;>first|intro h|simp)|(refine zG ?_ ?_<;>first|intro h|simp)|refine zE ?_|fail)
   all_goals try simp only[hidx]at*
   all_goals first|rfl|exact absurd hL (by omega)|(exfalso;omega)|trace_state
  have hb2:b[i].1.toNat<(qaX n T (2^n)).length:=by rw[hrlen];omega
  have erow:(qaX n T (2^n))[b[i].1.toNat]'hb2=qfA n T b[i].1.toNat:=qiJ hb2
  have he:=qAV b[i].2 ((qaX n T (2^n))[b[i].1.toNat]'hb2) hbi (by rw[erow,qe2];omega)
  have hup':∀j (h:j<b.length),j<i+1→0<j→b[j-1].1<b[j].1:=fun j h hj h0=>by
   rcases Nat.lt_succ_iff_lt_or_eq.1 hj with h'|rfl
   ·exact hC.1 j h h' h0
   ·refine Int.not_le.1 fun hh=>hu ⟨h0,hh⟩
  have hf:Go.Pv.findR (.int .i64) (.int .i64 b[i].1) ((b.take i).map fun x=>[D.int .i64 x.1,D.bool true])=some none:=quT fun x hx=>by
   obtain⟨j,hj,rfl⟩:=List.mem_iff_getElem.1 hx
   rw[List.length_take]at hj
   rw[List.getElem_take]
   have:=qBX i hup' hL j (by omega) (by omega)
   omega
  by_cases hq:b[i].2=qfA n T b[i].1.toNat
  rotate_left
  ·rw[hno fun h=>hq (List.ext_getElem (by rw[h.len i hL,qe2]) fun k h1 h2=>by rw[h.row i hL k h1 (by rw[←h.len i hL];exact h1),qku])]
   rw[erow,decide_eq_false hq]at he
   rw[←erow]at he
   repeat'(first|((with_reducible apply qao);rfl;rfl)|(with_reducible rfl)|refine zS ?_|refine zA ?_|refine zF hall ?_|refine zF he ?_|(refine zI ?_;intro hlt)|(refine zC ?_ ?_<;>first|intro h|simp)|(refine zG ?_ ?_<;>first|intro h|simp)|refine zE ?_|fail)
   all_goals try simp only[hidx]at*
   all_goals first|rfl|exact absurd hL (by omega)|(exfalso;omega)|(exfalso;simp at *;done)|trace_state
  ·rw[erow,decide_eq_true hq]at he
   rw[←erow]at he
   repeat'(first|((with_reducible apply qao);rfl;rfl)|((with_reducible (show evG _ _ (.region 9 _ _) _ _));(with_reducible apply qbM))|((with_reducible apply qeq);rfl;rfl;rfl;rfl;rfl;rfl;(exact hf);rfl)|(with_reducible apply qf2)|(with_reducible apply qcY)|(with_reducible apply qd6)|refine zS ?_|refine zA ?_|refine zF hall ?_|refine zF he ?_|(refine zI ?_;intro hlt)|(refine zC ?_ ?_<;>first|intro h|simp)|(refine zG ?_ ?_<;>first|intro h|simp)|refine zE ?_|fail)
   all_goals try simp only[hidx]at*
   all_goals first
    |exact absurd hL (by omega)
    |(exfalso;omega)
    |(exfalso;simp at *;done)
    |(refine⟨hL,⟨hup',fun j h hj=>?_⟩,?_⟩
      ·rcases Nat.lt_succ_iff_lt_or_eq.1 hj with h'|rfl
       ·exact hC.2 j h h'
       ·exact⟨hr.2,hq⟩
      ·show qcr _ ⟨[(5,.om 0),(24,.int .i64 ((i+1:Nat):Int)),(23,.int .i64 b.length),(22,.sl (b.map encBlk)),(0,.ptr [.int .i64 n,.sl ((qaX n T (2^n)).map qaJ),.sl (pl.map qaJ)]),(1,.sl (b.map encBlk))],[(0,⟨0,true,(b.take (i+1)).map fun x=>[.int .i64 x.1,.bool true]⟩)],32,102⟩
       rw[List.take_succ_eq_append_getElem hL,List.map_append]
       exact qaa (nx:=32) (k:=0) (ns:=[]) (ks:=[5,24,23,22,0,1]) [(0,0)] rfl (by simp) (by kernel_rfl))
    |trace_state
 obtain rfl:i=b.length:=by omega
 obtain⟨c,rfl⟩:∃c:List (Nat×List Int),b=toI c:=by
  refine⟨b.map fun x=>(x.1.toNat,x.2),?_⟩
  unfold toI
  rw[List.map_map]
  refine List.ext_getElem (by simp) fun j h1 h2=>?_
  have:=qe3 (fun _=>hzz) b.length hC.1 j h1 h1
  simp only[List.getElem_map,Function.comp]
  refine Prod.ext ?_ rfl
  show b[j].1=((b[j].1.toNat:Nat):Int)
  omega
 have ee:(toI c).map encBlk=c.map qhL:=by unfold toI;rw[List.map_map];rfl
 have em:((toI c).take (toI c).length).map (fun x=>[D.int .i64 x.1,D.bool true])=c.map fun x=>[D.int .i64 (x.1:Int),D.bool true]:=by rw[List.take_length];unfold toI;rw[List.map_map];rfl
 have hcl:(toI c).length=c.length:=List.length_map _
 have hltc:∀j (h:j<c.length),c[j].1<2^n-1∧c[j].2=qfA n T c[j].1:=fun j h=>by
  have:=hC.2 j (by rw[hcl];exact h) (by rw[hcl];exact h)
  simp only[qd8,Int.toNat_natCast]at this
  exact⟨by omega,this.2⟩
 have hc20:c.length≤256:=by rw[hcl]at hb;exact hb
 have hcls:∀i (h:i<c.length) k,k<n→Ord.nx T c[i].1 k=true→qoF c (c[i].1) k=false→Q=false:=fun i h k hk hx hh=>hno fun hp=>by
  have:=hp.cl i (by rw[hcl];exact h) k hk (by simpa[qd8]using hx)
  simp only[qd8]at this
  change qoF c (c[i].1) k=true at this
  rw[hh]at this
  cases this
 have hfin:(∀i (h:i<c.length) k,k<n→Ord.nx T c[i].1 k=true→qoF c (c[i].1) k=true)→Q=true:=fun h2=>hye
  ⟨by omega,fun _=>hzz,fun j hj h0=>hC.1 j hj hj h0,fun j hj=>(hC.2 j hj hj).1,fun j hj=>by rw[(hC.2 j hj hj).2,qe2],fun j hj k hk _=>by
   have e:=(hC.2 j hj hj).2
   simp only[e,qku],fun j hj k hk hx=>by
   simp only[qd8,Int.toNat_natCast]at hx ⊢
   exact h2 j (by rw[hcl]at hj;exact hj) k hk hx⟩
 repeat'(first|refine zQ ?_|(refine zI ?_;intro hlt)|(refine zC ?_ ?_<;>first|intro h|simp)|(refine zG ?_ ?_<;>first|intro h|simp)|refine zE ?_|fail)
 all_goals try exact absurd (show(toI c).length<(toI c).length by omega) hL
 refine qad c.length (fun i=>⟨[(5,.om 0),(74,.int .i64 i),(73,.int .i64 c.length),(72,.sl (c.map qhL)),(0,.ptr [.int .i64 n,.sl ((qaX n T (2^n)).map qaJ),.sl (pl.map qaJ)])],[(0,⟨0,true,c.map fun x=>[.int .i64 (x.1:Int),.bool true]⟩)],32,102⟩) (fun i=>∀j (h:j<c.length),j<i→∀k,k<n→Ord.nx T c[j].1 k=true→qoF c (c[j].1) k=true) ?_ (fun j h hj=>absurd hj (by omega)) ?_
 ·rw[←ee,←em,←hcl]
  exact qaa (nx:=32) (k:=0) (ns:=[]) (ks:=[5,74,73,72,0]) [(0,0)] rfl (by simp) (by kernel_rfl)
 intro i hi hD
 by_cases hI:i<c.length
 rotate_left
 ·rw[hfin fun j h k hk hx=>hD j h (by omega) k hk hx]
  repeat'(first|(with_reducible rfl)|refine zQ ?_|(refine zI ?_;intro hlt)|(refine zC ?_ ?_<;>first|intro h|simp)|refine zE ?_|fail)
  all_goals first|rfl|exact absurd hI (by omega)|trace_state
 repeat'(first|((with_reducible apply qao);rfl;rfl)|refine zS ?_|refine zA ?_|(refine zI ?_;intro hlt)|(refine zC ?_ ?_<;>first|intro h|simp)|refine zE ?_|fail)
 all_goals try exact absurd hI (by omega)
 refine qad n (fun k=>⟨[(82,.int .i64 k),(81,.int .i64 n),(9,.op 1 0 0),(5,.om 0),(74,.int .i64 i),(73,.int .i64 c.length),(72,.sl (c.map qhL)),(0,.ptr [.int .i64 n,.sl ((qaX n T (2^n)).map qaJ),.sl (pl.map qaJ)])],[(0,⟨0,true,c.map fun x=>[.int .i64 (x.1:Int),.bool true]⟩),(1,⟨2,false,[qhL c[i]]⟩)],64,102⟩) (fun k=>∀j,j<k→Ord.nx T c[i].1 j=true→qoF c (c[i].1) j=true) ?_ (fun j hj=>absurd hj (by omega)) ?_
 ·exact qaa (nx:=64) (k:=0) (ns:=[]) (ks:=[82,81,9,5,74,73,72,0]) [(0,0),(128,1)] rfl (by simp) (by kernel_rfl)
 intro k hk hK
 obtain⟨hSl,hrl⟩:=hltc i hI
 by_cases hKl:k<n
 rotate_left
 ·repeat'(first|refine zQ ?_|(refine zC ?_ ?_<;>first|intro h|simp)|fail)
  all_goals first
   |exact absurd hKl (by omega)
   |exact⟨hI,(fun j h hj k' hk' hx=>by
     rcases Nat.lt_succ_iff_lt_or_eq.1 hj with h'|rfl
     ·exact hD j h h' k' hk' hx
     ·exact hK k' (by omega) hx),qaa (nx:=32) (k:=0) (ns:=[]) (ks:=[5,74,73,72,0]) [(0,0)] rfl (by simp) (by kernel_rfl)⟩
   |trace_state
 have g1:=qtK n hn T pl c[i].1 k (by omega) hKl
 unfold qeS at g1
 have hp2:2^k≤256:=Nat.le_trans (Nat.pow_le_pow_right (by omega) (show k≤8 by omega)) (by decide)
 have hfi:=qpu (fun x:Nat×List Int=>(x.1:Int)) ((c[i].1|||2^k:Nat):Int) c
 have hea:Ord.nx T c[i].1 k=true→(c.any fun x=>((c[i].1|||2^k:Nat):Int)==(x.1:Int))=qoF c (c[i].1) k:=fun hx=>by
  have e:((c[i].1|||2^k:Nat):Int)=(c[i].1:Int)+((2^k:Nat):Int):=by
   rw[Ord.or_add (Ord.nx_bit hx)]
   exact Int.natCast_add _ _
  rw[e]
  unfold qoF qEe toI
  rw[List.any_map]
  congr 1
  funext x
  rw[Bool.eq_iff_iff]
  simp only[Function.comp,beq_iff_eq,decide_eq_true_eq]
  exact eq_comm
 have hC0:=hcls i hI k hKl
 have nxt:(Ord.nx T c[i].1 k=true→qoF c (c[i].1) k=true)→∀j,j<k+1→Ord.nx T c[i].1 j=true→qoF c (c[i].1) j=true:=fun h2 j hjk hx=>by
   rcases Nat.lt_succ_iff_lt_or_eq.1 hjk with h'|rfl
   ·exact hK j h' hx
   ·exact h2 hx
 cases hx:Ord.nx T c[i].1 k with
 |false=>
  rw[hx]at g1
  repeat'(first|refine zQ ?_|refine zF g1 ?_|(refine zC ?_ ?_<;>first|intro h|simp)|fail)
  all_goals first
   |exact absurd hKl (by omega)
   |exact⟨hKl,nxt (fun h=>by rw[hx]at h;cases h),qaa (nx:=64) (k:=0) (ns:=[]) (ks:=[82,81,9,5,74,73,72,0]) [(0,0),(1,1)] rfl (by simp) (by kernel_rfl)⟩
   |(exfalso;rename_i hh;simp at hh;done)
   |trace_state
 |true=>
  rw[hx]at g1
  rw[hea hx]at hfi
  have hC1:=hC0 hx
  cases hb2:qoF c (c[i].1) k with
  |true=>
   rw[hb2,if_pos rfl]at hfi
   repeat'(first|((with_reducible apply qb1);rfl;rfl;rfl;rfl;(exact hfi);rfl;rfl)|((with_reducible apply qce);rfl;rfl;rfl;omega)|((with_reducible apply qlf);rfl;rfl;rfl;(exact⟨by omega,by omega⟩))|refine zS ?_|refine zA ?_|refine zF g1 ?_|(refine zC ?_ ?_<;>first|intro h|simp)|fail)
   all_goals first
    |exact absurd hKl (by omega)
    |exact⟨hKl,nxt (fun _=>hb2),qaa (nx:=64) (k:=0) (ns:=[]) (ks:=[82,81,9,5,74,73,72,0]) [(0,0),(1,1)] rfl (by simp) (by kernel_rfl)⟩
    |(exfalso;rename_i hh;simp at hh;done)
    |trace_state
  |false=>
   rw[hb2,if_neg (by simp)]at hfi
   rw[hC1 hb2]
   repeat'(first|((with_reducible apply qb1);rfl;rfl;rfl;rfl;(exact hfi);rfl;rfl)|((with_reducible apply qce);rfl;rfl;rfl;omega)|((with_reducible apply qlf);rfl;rfl;rfl;(exact⟨by omega,by omega⟩))|(with_reducible rfl)|refine zS ?_|refine zA ?_|refine zF g1 ?_|(refine zC ?_ ?_<;>first|intro h|simp)|refine zE ?_|fail)
   all_goals first
    |rfl
    |exact absurd hKl (by omega)
    |(exfalso;rename_i hh;simp at hh;done)
    |trace_state
theorem qmw(s:Site)(hz:Sized s)(hd:s.dreds.length<1000000000000)(h100:s.bed.levels.length≤100)(l:List Cut)(hl:l.length≤9223372036854775807)(b:List (Int×List Int))(hb:b.length≤256)(hbr:∀x∈b,x.2.length≤9223372036854775807):
  Contract Tryz.prog 56 [.agg (encSite s),.sl (l.map encCut),.sl (b.map encBlk)] (.ret (.int .i64 (if qcy s l≠0 then qcy s l else if 8<l.length then 8 else if qeO l.length (qaq s l) b=true then 0 else 21))):=by
 by_cases h0:qcy s l=0
 rotate_left
 ·rw[if_pos h0]
  have h1:=ql6 s hz hd l hl h0
  generalize qcy s l=q at*
  refine zT mix Tryz.func56 Tryz.ntmps56 Tryz.results56 rfl rfl rfl ?_;simp only[qab,Nat.reduceAdd]
  repeat'(first|((with_reducible apply qdF);rfl;rfl)|(with_reducible rfl)|refine zS ?_|refine zA ?_|refine zF h1 ?_|(refine zC ?_ ?_<;>first|intro h|simp)|refine zE ?_|fail)
  all_goals first|rfl|(exfalso;omega)|trace_state
 rw[if_neg (not_not_intro h0)]
 by_cases h8:8<l.length
 ·rw[if_pos h8]
  have h1:=ql7 s hz hd l hl h0 h8
  refine zT mix Tryz.func56 Tryz.ntmps56 Tryz.results56 rfl rfl rfl ?_;simp only[qab,Nat.reduceAdd]
  repeat'(first|((with_reducible apply qdF);rfl;rfl)|(with_reducible rfl)|refine zS ?_|refine zA ?_|refine zF h1 ?_|refine zE ?_|fail)
  all_goals first|rfl|(exfalso;omega)|trace_state
 rw[if_neg h8]
 have ok:=(qcw h0).1
 have h1:=qoA s hz ok h100 l h0 (by omega)
 have h2:=qAW l.length (by omega) (qaq s l) (qaX l.length (qaK s l) (2^l.length)) b hb hbr
 generalize qeO l.length (qaq s l) b=Q at*
 unfold qeS at h1 h2
 refine zT mix Tryz.func56 Tryz.ntmps56 Tryz.results56 rfl rfl rfl ?_;simp only[qab,Nat.reduceAdd]
 repeat'(first|refine zQ ?_|refine zF h1 ?_|refine zF h2 ?_|(refine zC ?_ ?_<;>first|intro h|simp)|refine zE ?_|fail)
 all_goals first|(simp[*];done)|(exfalso;omega)|trace_state
theorem qM3{n:Nat}{R:Nat→Nat→Int}{t:Nat}:t∈qAL n R (2^n)↔t<2^n∧Ord.Rch n R t:=by
 unfold qAL
 rw[List.mem_filter,List.mem_range]
 constructor
 ·rintro⟨h1,h2⟩
  exact⟨h1,(Ord.qH9 (Nat.le_of_lt h1) (Nat.le_refl t)).1 h2⟩
 ·rintro⟨h1,h2⟩
  exact⟨h1,(Ord.qH9 (Nat.le_of_lt h1) (Nat.le_refl t)).2 h2⟩
theorem qM4{n:Nat}{R:Nat→Nat→Int}{m:Nat}:(qAL n R m).Pairwise (· < ·):=List.Pairwise.filter _ List.pairwise_lt_range
theorem qMX{n:Nat}{R:Nat→Nat→Int}{m i:Nat}(h:i<(qdg n R m).length):(qdg n R m)[i]=((qAL n R m)[i]'(by simpa[qdg]using h),qfA n R ((qAL n R m)[i]'(by simpa[qdg]using h))):=by simp[qdg]
theorem qMY{n:Nat}{R:Nat→Nat→Int}(h:Ord.ordL n R n 0=[]):IsPr n R (toI (qdg n R (2^n))):=by
 have hfull:¬Ord.Rch n R (2^n-1):=fun hr=>Ord.qyr.2 hr h
 have hasc:=qM4 (n:=n) (R:=R) (m:=2^n)
 have hmem:=fun t=>qM3 (n:=n) (R:=R) (t:=t)
 have hpl:(toI (qdg n R (2^n))).length=(qAL n R (2^n)).length:=by simp[toI,qdg]
 have hget:∀i (hi:i<(toI (qdg n R (2^n))).length),(toI (qdg n R (2^n)))[i]=(((qAL n R (2^n))[i]'(by omega):Int),qfA n R ((qAL n R (2^n))[i]'(by omega))):=fun i hi=>by
  rw[qd8,qMX]
 have h0:0∈qAL n R (2^n):=(hmem 0).2 ⟨Nat.two_pow_pos n,.zero⟩
 have hpos:=List.length_pos_of_mem h0
 have hin:∀i (hi:i<(qAL n R (2^n)).length),(qAL n R (2^n))[i]<2^n∧Ord.Rch n R (qAL n R (2^n))[i]:=fun i hi=>(hmem _).1 (List.getElem_mem hi)
 have hlt:∀i j (hi:i<(qAL n R (2^n)).length) (hj:j<(qAL n R (2^n)).length),i<j→(qAL n R (2^n))[i]<(qAL n R (2^n))[j]:=fun i j hi hj hij=>List.pairwise_iff_getElem.1 hasc i j hi hj hij
 refine⟨by omega,fun hh=>?_,fun i hi h1=>?_,fun i hi=>?_,fun i hi=>?_,fun i hi k hk hkn=>?_,fun i hi k hkn hx=>?_⟩
 ·rw[hget 0 hh]
  obtain⟨j,hj,e⟩:=List.mem_iff_getElem.1 h0
  rcases Nat.eq_zero_or_pos j with rfl|hj0
  ·show(((qAL n R (2^n))[0]:Nat):Int)=0
   rw[e];rfl
  ·have:=hlt 0 j hpos hj hj0
   omega
 ·rw[hget i hi,hget (i-1) (by omega)]
  have:=hlt (i-1) i (by omega) (by omega) (by omega)
  show((_:Nat):Int)<((_:Nat):Int)
  omega
 ·rw[hget i hi]
  obtain⟨g1,g2⟩:=hin i (by omega)
  have hne:(qAL n R (2^n))[i]'(by omega)≠2^n-1:=fun e=>hfull (e▸g2)
  have key:∀a p:Nat,a<p→a≠p-1→(a:Int)<(p:Int)-1:=fun a p h1 h2=>by omega
  exact key _ _ g1 hne
 ·rw[hget i hi]
  exact qe2
 ·have e:=hget i hi
  have e1:(toI (qdg n R (2^n)))[i].1.toNat=(qAL n R (2^n))[i]'(by omega):=by rw[e];exact Int.toNat_natCast _
  have e2:(toI (qdg n R (2^n)))[i].2=qfA n R ((qAL n R (2^n))[i]'(by omega)):=by rw[e]
  rw[e1]
  simp only[e2,qku]
 ·have e:=hget i hi
  have e1:(toI (qdg n R (2^n)))[i].1=((qAL n R (2^n))[i]'(by omega):Int):=by rw[e]
  have e3:(toI (qdg n R (2^n)))[i].1.toNat=(qAL n R (2^n))[i]'(by omega):=by rw[e1];exact Int.toNat_natCast _
  rw[e3]at hx
  rw[e1]
  obtain⟨g1,g2⟩:=hin i (by omega)
  have hm:(qAL n R (2^n))[i]'(by omega)|||2^k∈qAL n R (2^n):=(hmem _).2 ⟨Ord.qqj g1 hkn,.step g2 hkn hx⟩
  obtain⟨j,hj,ej⟩:=List.mem_iff_getElem.1 hm
  refine(qDW (b:=toI (qdg n R (2^n))) (j:=j) (by omega) ?_).symm
  rw[hget j (by omega)]
  show(((qAL n R (2^n))[j]:Nat):Int)=_
  rw[ej,Ord.or_add (Ord.nx_bit hx)]
  exact Int.natCast_add _ _
theorem qM9(c:List (Nat×List Int)):(toI c).map encBlk=c.map qhL:=by unfold toI;rw[List.map_map];rfl
theorem qMS{n:Nat}{R:Nat→Nat→Int}{m:Nat}:∀x∈toI (qdg n R m),x.2.length=n:=fun x hx=>by
 obtain⟨y,hy,rfl⟩:=List.mem_map.1 hx
 obtain⟨t,_,rfl⟩:=List.mem_map.1 hy
 exact qe2
end Go.Pv.Soil

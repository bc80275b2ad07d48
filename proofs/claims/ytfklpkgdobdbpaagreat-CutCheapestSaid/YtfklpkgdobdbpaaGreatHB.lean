import Derived.Test.YtfklpkgdobdbpaaGreatCBW
/- Part of the proofs over YtfklpkgdobdbpaaGreat: SupPyC, CFactsB, Q7, N60, N81, N95, N80. -/
set_option linter.unusedVariables false
set_option linter.unusedSimpArgs false
set_option linter.unnecessarySimpa false
namespace Go.Pv
section
variable {P:Program}{K:X→St→Prop}{env:Env}{hp:Hp}{nx n id:Nat}
end
section
variable {P:Program}{id nx n:Nat}{env:List (Tmp×D)}{hp:List (Nat×Blk)}{K:X→St→Prop}{x:Operand}{s:Tmp}
def qM5(E:St→St→Prop)(P:Program)(l:List Oper)(m:Nat)(zs:List (List Nat))(K:X→St→Prop):X→St→Prop:=qfi fun st'=>qcD E P l m (l.drop m) zs st'.nx st' K
theorem qMV{E:St→St→Prop}{l:List Oper}{m:Nat}{zs:List (List Nat)}(h:qcD E P l m (l.drop m) zs nx ⟨env,hp,nx,n⟩ K):qM5 E P l m zs K .normal ⟨env,hp,nx,n⟩:=h
theorem qM1{E:St→St→Prop}(i m:Nat)(zs:List (List Nat)){l:List Oper}(hc:qeW l m zs=true)(hdom:(hp.all fun x=>decide (x.1<nx))=true)(h:qaP P l (l.take m) nx ⟨env,hp,nx,n⟩ (qM5 E P l m zs K)):
  evG E P (.region i l.toArray true) K ⟨env,hp,nx,n⟩:=.inr (.inr ⟨m,zs,hc,hdom,h⟩)
theorem qME{E:St→St→Prop}{l l':List Oper}{m k:Nat}{o:Oper}{zs:List (List Nat)}{st:St}(h:qcD E P l m (List.drop k l') zs id st K):qcD E P l m (List.drop (k+1) (o::l')) zs id st K:=h
theorem qMB{E:St→St→Prop}{l l':List Oper}{m:Nat}{zs:List (List Nat)}{st:St}(h:qcD E P l m l' zs id st K):qcD E P l m (List.drop 0 l') zs id st K:=h
theorem qMF{E:St→St→Prop}{l rest:List Oper}{m:Nat}{zs:List (List Nat)}{z:List Nat}{dst:Option Tmp}{op:Op}{ty:TypeId}{pos:String}{af:Array Edge}{g:Option (Nat×Bool)}(h:qap P op id dst ⟨env,hp,nx,n⟩ (kLc E P l m rest zs z id K)):
  qcD E P l m ({dst:=dst,op:=op,type:=ty,pos:=pos,after:=af,guard:=g}::rest) (z::zs) id ⟨env,hp,nx,n⟩ K:=.inl h
theorem qMW{E:St→St→Prop}{l rest:List Oper}{m:Nat}{zs:List (List Nat)}{z:List Nat}(h1:qbP P l ⟨env,hp,nx,n⟩ z)(h2:qcD E P l m rest zs (id+32+32*m) ⟨env,hp,nx,n⟩ K):kLc E P l m rest zs z id K .normal ⟨env,hp,nx,n⟩:=⟨h1,h2⟩
theorem qMH{E:St→St→Prop}{l:List Oper}{m:Nat}(h:K .normal ⟨env,hp,id,n⟩):qcD E P l m [] [] id ⟨env,hp,nx,n⟩ K:=h
end
end Go.Pv
open Go Go.Proofs Go.Pv
namespace Go.Pv.Tf
instance qNp:TZero Tryz.prog 42 (.int .i64 0):=⟨by kernel_rfl,rfl,by decide⟩
instance qNm:TCells Tryz.prog 188 1:=⟨by kernel_rfl,by decide⟩
end Go.Pv.Tf
namespace Go.Pv.Ord
variable {n:Nat}{R p:Nat→Nat→Int}
theorem qM4{α:Type}{f:α→Int}{l:List α}{x:α}(h:qov f l x){b:Nat}(hb:b<l.length)(h1:∀j (hj:j<b),f l[b]<f (l[j]'(by omega)))(h2:∀j (hj:j<l.length),f l[b]≤f l[j]):l[b]=x:=by
 obtain⟨l1,l2,rfl,g1,g2⟩:=h
 have hx:(l1++x::l2)[l1.length]'(by simp)=x:=by simp
 rcases Nat.lt_trichotomy b l1.length with hlt|rfl|hgt
 ·exfalso
  have e:(l1++x::l2)[b]=l1[b]:=List.getElem_append_left hlt
  have k1:=g1 l1[b] (List.getElem_mem hlt)
  have k2:=h2 l1.length (by simp)
  rw[hx,e]at k2
  omega
 ·exact hx
 ·exfalso
  have k1:=h1 l1.length hgt
  rw[hx]at k1
  have hm:(l1++x::l2)[b]∈x::l2:=by
   rw[List.getElem_append_right (by omega)]
   exact List.getElem_mem _
  rcases List.mem_cons.1 hm with e|e
  ·rw[e]at k1;omega
  ·have:=g2 _ e;omega
def qMP(R:Nat→Nat→Int):Nat→List Nat→Bool
 |_,[]=>true
 |s,k::r=>nx R s k&&qMP R (s|||2^k) r
def qNa(s:Nat)(o:List Nat):Nat:=o.foldl (fun s k=>s|||2^k) s
theorem qM6{o:List Nat}:qNa 0 o=setP o:=rfl
theorem qMQ:∀{o:List Nat} {s k:Nat},qMP R s (o++[k])=(qMP R s o&&nx R (qNa s o) k)
 |[],s,k=>by simp[qMP,qNa]
 |j::o,s,k=>by
  simp only[List.cons_append,qMP,qMQ (o:=o),qNa,List.foldl_cons,Bool.and_assoc]
theorem qMJ:∀{o:List Nat} {s k:Nat},ql1 p s (o++[k])=ql1 p s o+p (qNa s o) k
 |[],s,k=>by simp[ql1,qNa]
 |j::o,s,k=>by
  simp only[List.cons_append,ql1,qMJ (o:=o),qNa,List.foldl_cons]
  omega
theorem qMR{o:List Nat}{i:Nat}(h:i<o.length):qMP R 0 (o.take (i+1))=(qMP R 0 (o.take i)&&nx R (setP (o.take i)) o[i]):=by
 rw[List.take_succ_eq_append_getElem h,qMQ,qM6]
theorem qNf{o:List Nat}{i:Nat}(h:i<o.length):ql1 p 0 (o.take (i+1))=ql1 p 0 (o.take i)+p (setP (o.take i)) o[i]:=by
 rw[List.take_succ_eq_append_getElem h,qMJ,qM6]
theorem qMZ:∀{m s:Nat} {o:List Nat},o∈ordL n R m s↔o.length=m∧(∀k∈o,k<n)∧qMP R s o=true
 |0,s,o=>by
  simp only[ordL,List.mem_singleton,List.length_eq_zero_iff]
  constructor
  ·rintro rfl;simp[qMP]
  ·exact fun h=>h.1
 |m+1,s,o=>by
  simp only[ordL,List.mem_flatMap,List.mem_range]
  constructor
  ·rintro⟨k,hk,h⟩
   split at h
   ·rename_i hx
    obtain⟨r,hr,rfl⟩:=List.mem_map.1 h
    obtain⟨h1,h2,h3⟩:=qMZ.1 hr
    refine⟨by simp[h1],fun j hj=>?_,by simp[qMP,hx,h3]⟩
    rcases List.mem_cons.1 hj with rfl|hj
    ·exact hk
    ·exact h2 j hj
   ·cases h
  ·rintro⟨h1,h2,h3⟩
   cases o with
   |nil=>simp at h1
   |cons k r=>
    simp only[qMP,Bool.and_eq_true]at h3
    refine⟨k,h2 k (by simp),?_⟩
    rw[if_pos h3.1]
    exact List.mem_map.2 ⟨r,qMZ.2 ⟨by simpa using h1,fun j hj=>h2 j (by simp[hj]),h3.2⟩,rfl⟩
theorem qNn{o:List Nat}(h:qMP R 0 o=true):∀{i:Nat} (hi:i<o.length),nx R (setP (o.take i)) o[i]=true:=by
 intro i hi
 have key:∀d,i+1+d=o.length→qMP R 0 (o.take (i+1))=true:=by
  intro d
  suffices H:∀d j,j+d=o.length→qMP R 0 (o.take j)=true by exact H d (i+1)
  intro d
  induction d with
  |zero=>intro j hj;rw[show j=o.length by omega,List.take_length];exact h
  |succ d ih=>
   intro j hj
   have:=ih (j+1) (by omega)
   rw[qMR (by omega),Bool.and_eq_true]at this
   exact this.1
 have:=key (o.length-(i+1)) (by omega)
 rw[qMR hi,Bool.and_eq_true]at this
 exact this.2
def qMS(f:Nat→Int):Nat→Nat
 |0=>0
 |i+1=>if f (i+1)<f (qMS f i)then i+1 else qMS f i
theorem qM7{f:Nat→Int}:∀{i:Nat},qMS f i≤i
 |0=>Nat.le_refl _
 |i+1=>by
  have:=qM7 (f:=f) (i:=i)
  simp only[qMS];split<;>omega
theorem qMN{f:Nat→Int}:∀{i j:Nat},j≤i→f (qMS f i)≤f j
 |0,j,h=>by rw[show j=0 by omega];exact Int.le_refl _
 |i+1,j,h=>by
  simp only[qMS]
  rcases Nat.lt_or_ge i j with hj|hj
  ·rw[show j=i+1 by omega]
   split<;>omega
  ·have:=qMN (f:=f) (i:=i) hj
   split<;>omega
theorem qMK{f:Nat→Int}:∀{i j:Nat},j<qMS f i→f (qMS f i)<f j
 |0,j,h=>by simp[qMS]at h
 |i+1,j,h=>by
  simp only[qMS]at h ⊢
  split at h
  ·rename_i hl
   rw[if_pos hl]
   have:=qMN (f:=f) (i:=i) (j:=j) (by omega)
   omega
  ·rename_i hl
   rw[if_neg hl]
   exact qMK h
theorem qNo{f:List Nat→Int}{A:List (List Nat)}{x:List Nat}(h:qov f A x){m:Nat}(hm:A.length=m+1):∃hb:qMS (fun j=>f (A.getD j [])) m<A.length,A[qMS (fun j=>f (A.getD j [])) m]=x:=by
 have hl:=qM7 (f:=fun j=>f (A.getD j [])) (i:=m)
 have hg:∀j (hj:j<A.length),A.getD j []=A[j]:=fun j hj=>by rw[List.getD_eq_getElem?_getD,List.getElem?_eq_getElem hj];rfl
 refine⟨by omega,qM4 h (by omega) (fun j hj=>?_) fun j hj=>?_⟩
 ·have:=qMK (f:=fun j=>f (A.getD j [])) (i:=m) hj
  simp only[hg _ (show j<A.length by omega),hg _ (show qMS (fun j=>f (A.getD j [])) m<A.length by omega)]at this
  exact this
 ·have:=qMN (f:=fun j=>f (A.getD j [])) (i:=m) (j:=j) (by omega)
  simp only[hg _ hj,hg _ (show qMS (fun j=>f (A.getD j [])) m<A.length by omega)]at this
  exact this
end Go.Pv.Ord
set_option maxHeartbeats 8000000
set_option maxRecDepth 100000
set_option linter.unusedSimpArgs false
set_option linter.unusedVariables false
namespace Go.Pv.Soil
theorem tm2{q:Nat}:(q:Int).tmod 2=((q%2:Nat):Int):=by
 rw[Int.tmod_eq_emod_of_nonneg (by omega)]
 omega
theorem qtO(s:Site)(hs:OkSite s)(l:List Cut)(hll:l.length≤8)(hl:∀i (hi:i<l.length),OkCut s l[i])(set:Nat)(hset:set≤1000):Contract Tryz.prog 117 [.agg (encSite s),.sl (l.map encCut),.int .i64 set] (.ret (.agg (qag (qd3 s l set)))):=by
 have hsm:=hs.bed.small
 have h1:Contract Tryz.prog 79 [.agg (qag s.bed)] (.ret (.agg (qag s.bed))):=qEU qrk (c91 s.bed (by omega))
 refine zT mix Tryz.func117 Tryz.ntmps117 Tryz.results117 rfl rfl rfl ?_;simp only[qab,Nat.reduceAdd]
 repeat'(first|refine zQ ?_|refine zF h1 ?_|fail)
 refine qad l.length (fun i=>⟨[(8,.int .i64 i),(2,.int .i64 set),(1,.sl (l.map encCut)),(3,.op 0 0 0),(6,.op 1 0 0),(7,.op 2 0 0)],[(0,⟨12,true,[encSite s]⟩),(1,⟨6,false,[[.int .i64 0,.int .i64 0,.int .i64 0,.int .i64 0,.int .i64 0,.nilsl]]⟩),(2,⟨6,false,[qag (qkt s l set i)]⟩)],96,31⟩) (fun i=>True) ?_ trivial ?_
 ·exact qaa (nx:=96) (k:=0) (ns:=[]) (ks:=[8,2,1,3,6,7]) [(0,0),(32,1),(160,2)] rfl (by simp) (by kernel_rfl)
 intro i hi _
 have hok:=ql0 hs hl (set:=set) i
 by_cases hL:i<l.length
 ·have h2:=qgx s hs.bed (qkt s l set i) hok l[i] (hl i hL)
  have hsu:=qiG (s:=s) (set:=set) hL
  cases hb:qiF set i with
  |true=>
   have hm:set/2^i%2=1:=of_decide_eq_true hb
   rw[if_pos hb]at hsu
   rw[←hsu]at h2
   generalize qkt s l set (i+1)=g2 at*
   generalize qkt s l set i=g1 at*
   repeat'(first|((with_reducible apply qdx);rfl;rfl;rfl;omega)|refine zS ?_|refine zA ?_|refine zF h2 ?_|(refine zI ?_;intro hlt)|(refine zC ?_ ?_<;>first|intro h|simp)|fail)
   all_goals first
    |exact absurd hL (by omega)
    |(exfalso;simp only[tm2]at *;omega)
    |exact⟨hL,trivial,qaa (nx:=96) (k:=0) (ns:=[]) (ks:=[8,2,1,3,6,7]) [(0,0),(1,1),(2,2)] rfl (by simp) (by kernel_rfl)⟩
    |(exfalso;omega)
    |trace_state
  |false=>
   have hm:¬set/2^i%2=1:=of_decide_eq_false hb
   rw[if_neg (by rw[hb];simp)]at hsu
   rw[hsu]
   generalize qkt s l set i=g1 at*
   repeat'(first|((with_reducible apply qdx);rfl;rfl;rfl;omega)|refine zS ?_|refine zA ?_|refine zF h2 ?_|(refine zI ?_;intro hlt)|(refine zC ?_ ?_<;>first|intro h|simp)|fail)
   all_goals first
    |exact absurd hL (by omega)
    |(exfalso;simp only[tm2]at *;omega)
    |exact⟨hL,trivial,qaa (nx:=96) (k:=0) (ns:=[]) (ks:=[8,2,1,3,6,7]) [(0,0),(1,1),(2,2)] rfl (by simp) (by kernel_rfl)⟩
    |(exfalso;omega)
    |trace_state
 ·obtain rfl:i=l.length:=by omega
  unfold qd3
  generalize qkt s l set l.length=g1 at*
  repeat'(first|refine zQ ?_|(refine zI ?_;intro hlt)|(refine zC ?_ ?_<;>first|intro h|simp)|((with_reducible apply qaz);rfl;rfl)|fail)
  all_goals first
   |exact absurd (show l.length<l.length by omega) hL
   |exact qif rfl rfl rfl
   |trace_state
theorem qFQ(s:Site)(hz:Sized s)(hs:OkSite s)(h100:s.bed.levels.length≤100)(l:List Cut)(hll:l.length≤8)(hl:∀i (hi:i<l.length),OkCut s l[i])(set:Nat)(hset:set≤1000)(k:Nat)(hk:k<l.length):Contract Tryz.prog 132 [.agg (encSite s),.sl (l.map encCut),.int .i64 set,.int .i64 k] (.ret (.int .i64 (qou s l set k))):=by
 have hok:=ql0 hs hl (set:=set) l.length
 have hlen:=hok.len hs.bed
 have h1:=qtO s hs l hll hl set hset
 have h2:=qqg s hz hs (qd3 s l set) hok (by unfold qd3;omega) l[k] (hl k hk)
 have e:qou s l set k=qAA (qfg s (qd3 s l set) l[k]):=by simp only[qou,List.getElem?_eq_getElem hk]
 rw[e]
 generalize qfg s (qd3 s l set) l[k]=o at*
 generalize qd3 s l set=g at*
 cases o with
 |none=>
  refine zT mix Tryz.func132 Tryz.ntmps132 Tryz.results132 rfl rfl rfl ?_;simp only[qab,Nat.reduceAdd]
  repeat'(first|((with_reducible apply(qaS 14 [[12],[]]));decide +kernel;rfl)|(with_reducible apply qaR)|(with_reducible apply qav)|(with_reducible apply qas)|(with_reducible apply qby)|(with_reducible apply qaA)|(with_reducible apply qcv)|(with_reducible apply qaw)|((with_reducible apply qa9);rfl;(intro id'))|((with_reducible apply qaT);rfl)|refine zS ?_|refine zA ?_|refine zF h1 ?_|refine zF h2 ?_|(refine zI ?_;intro hlt)|refine zE ?_|fail)
  all_goals rfl
 |some v=>
  obtain⟨r,c⟩:=v
  refine zT mix Tryz.func132 Tryz.ntmps132 Tryz.results132 rfl rfl rfl ?_;simp only[qab,Nat.reduceAdd]
  repeat'(first|((with_reducible apply(qaS 14 [[12],[]]));decide +kernel;rfl)|(with_reducible apply qaR)|(with_reducible apply qav)|(with_reducible apply qas)|(with_reducible apply qby)|(with_reducible apply qaA)|(with_reducible apply qcv)|(with_reducible apply qaw)|((with_reducible apply qa9);rfl;(intro id'))|((with_reducible apply qaT);rfl)|refine zS ?_|refine zA ?_|refine zF h1 ?_|refine zF h2 ?_|(refine zI ?_;intro hlt)|refine zE ?_|fail)
  all_goals rfl
theorem qFR(s:Site)(hz:Sized s)(hs:OkSite s)(h100:s.bed.levels.length≤100)(l:List Cut)(hll:l.length≤8)(hl:∀i (hi:i<l.length),OkCut s l[i])(B:Int)(hB0:0≤B∧B≤1000000000000000000)(hB:∀i,i<l.length→0≤prE s l i∧prE s l i≤B):Contract Tryz.prog 36 [.agg (encSite s),.sl (l.map encCut)] (.ret (.int .i64 (prS s l l.length))):=by
 have hsb:∀i,i≤l.length→0≤prS s l i∧prS s l i≤i*B:=by
  intro i hi
  induction i with
  |zero=>simp[prS]
  |succ i ih=>
   have h1:=ih (by omega)
   have h2:=hB i (by omega)
   simp only[prS,Int.natCast_add,Int.natCast_one,Int.add_mul,Int.one_mul]
   omega
 refine zT mix Tryz.func36 Tryz.ntmps36 Tryz.results36 rfl rfl rfl ?_;simp only[qab,Nat.reduceAdd]
 repeat'(first|refine zQ ?_|fail)
 refine qad l.length (fun i=>⟨[(6,.int .i64 i),(5,.int .i64 (prS s l i)),(1,.sl (l.map encCut)),(2,.op 0 0 0)],[(0,⟨12,true,[encSite s]⟩)],32,34⟩) (fun i=>True) ?_ trivial ?_
 ·exact qaa (nx:=32) (k:=0) (ns:=[]) (ks:=[6,5,1,2]) [(0,0)] rfl (by simp) (by kernel_rfl)
 intro i hi _
 have hok:=qgE hs hl i
 have hlen:=hok.len hs.bed
 have hbi:=hsb i hi
 have hbb:(i:Int)*B≤8*1000000000000000000:=by
  have:=Int.mul_le_mul (show(i:Int)≤8 by omega) hB0.2 hB0.1 (by omega)
  omega
 by_cases hL:i<l.length
 ·have h1:=qlW s hs l (by omega) hl i hi
  have h2:=qko s hs hz (qcz s l i) hok (by omega) l[i] (hl i hL)
  have hB1:=hB i hL
  have hsu:prS s l (i+1)=prS s l i+prE s l i:=rfl
  have e:prE s l i=(qiS (dredOf s l[i].dredger) (qbk s (qcz s l i) l[i])).2.1:=qtA hL
  rw[←e]at h2
  generalize prS s l (i+1)=p2 at*
  generalize prE s l i=pe at*
  generalize prS s l i=p1 at*
  generalize (qiS (dredOf s l[i].dredger) (qbk s (qcz s l i) l[i])).1=x1 at*
  generalize qBH (qiS (dredOf s l[i].dredger) (qbk s (qcz s l i) l[i]))=x2 at*
  generalize qcz s l i=g1 at*
  subst hsu
  repeat'(first|refine zQ ?_|refine zF h1 ?_|refine zF h2 ?_|(refine zI ?_;intro hlt)|(refine zC ?_ ?_<;>first|intro h|simp)|fail)
  all_goals first
   |exact absurd hL (by omega)
   |exact⟨hL,trivial,qaa (nx:=32) (k:=0) (ns:=[]) (ks:=[6,5,1,2]) [(0,0)] rfl (by simp) (by kernel_rfl)⟩
   |(exfalso;omega)
   |trace_state
 ·obtain rfl:i=l.length:=by omega
  repeat'(first|(with_reducible rfl)|refine zQ ?_|(refine zC ?_ ?_<;>first|intro h|simp)|refine zE ?_|fail)
  all_goals first
   |exact absurd (show l.length<l.length by omega) hL
   |trace_state
theorem qNj:qfm encCut 8:=fun _=>⟨rfl,rfl⟩
theorem qMY{l:List Cut}{o:List Nat}{i:Nat}(hi:i<o.length)(h:o[i]<l.length):qvm l (o.take (i+1))=qvm l (o.take i)++[l[o[i]]]:=by
 rw[List.take_succ_eq_append_getElem hi]
 simp only[qvm,List.filterMap_append,List.filterMap_cons,List.getElem?_eq_getElem h,List.filterMap_nil]
theorem qM2(l:List Cut)(hll:l.length≤1000000)(o:List Nat)(ho:∀k∈o,k<l.length)(hol:o.length≤1000000):Contract Tryz.prog 37 [.sl (l.map encCut),.sl (o.map qcx)] (.ret (.sl ((qvm l o).map encCut))):=by
 refine zT mix Tryz.func37 Tryz.ntmps37 Tryz.results37 rfl rfl rfl ?_;simp only[qab,Nat.reduceAdd]
 repeat'(first|refine zQ ?_|fail)
 refine qad o.length (fun i=>⟨[(5,.os 1 0 (qvm l (o.take i)).length),(6,.int .i64 i),(0,.sl (l.map encCut)),(1,.sl (o.map qcx))],[(1,⟨8,true,(qvm l (o.take i)).map encCut⟩)],64,24⟩) (fun i=>True) ?_ trivial ?_
 ·exact qaa (nx:=64) (k:=8) (ns:=[(5,1)]) (ks:=[6,0,1]) [] rfl (by simp;rfl) (by kernel_rfl)
 intro i hi _
 have hsl:(qvm l (o.take i)).length=i:=by rw[qtH (fun k hk=>ho k (List.mem_of_mem_take hk)),List.length_take];omega
 by_cases hL:i<o.length
 ·have hk:=ho o[i] (List.getElem_mem hL)
  have hsu:=qMY (l:=l) hL hk
  repeat'(first|refine zQ ?_|(refine zI ?_;intro hlt)|(refine zC ?_ ?_<;>first|intro h|simp)|fail)
  all_goals try exact absurd hL (by omega)
  refine qaH (f:=encCut) (a:=l[o[i]]) (l:=qvm l (o.take i)) qNj rfl rfl rfl rfl rfl rfl (by kernel_rfl) (by kernel_rfl) (by omega) rfl ?_
  repeat'(first|refine zQ ?_|fail)
  refine⟨hL,trivial,?_⟩
  have el:(qvm l (o.take i)).length+1=(qvm l (o.take (i+1))).length:=by rw[hsu];simp
  rw[←hsu,el]
  exact qaa (nx:=64) (k:=8) (ns:=[]) (ks:=[5,6,0,1]) [(1,1)] rfl (by simp) (by kernel_rfl)
 ·obtain rfl:i=o.length:=by omega
  rw[List.take_length]
  repeat'(first|refine zQ ?_|(refine zI ?_;intro hlt)|(refine zC ?_ ?_<;>first|intro h|simp)|fail)
  all_goals try exact absurd (show o.length<o.length by omega) hL
  exact qwU (f:=encCut) (l:=qvm l o) rfl rfl rfl rfl
theorem qNe(o:List Nat)(ho:o.length≤1000000):Contract Tryz.prog 155 [.sl (o.map qcx)] (.ret (.fr 1 (o.map qcx))):=by
 have:=c70 (o.map fun k:Nat=>(k:Int)) (by rw[List.length_map];omega)
 rw[List.map_map]at this
 exact this
theorem qNb{s:Site}{l:List Cut}(hl:∀i (hi:i<l.length),OkCut s l[i]):∀i (hi:i<l.length),l[i].level<30000:=fun i hi=>by
 have:=(hl i hi).lvl
 omega
theorem qM0{l:List Cut}{o:List Nat}(h:∀k∈o,k<l.length){i:Nat}(hi:i<o.length)(hi2:i<(qvm l o).length):(qvm l o)[i]=l[o[i]]'(h _ (List.getElem_mem hi)):=by
 have:=qtI (l:=l) h i hi
 rw[List.getElem?_eq_some_iff]at this
 exact this.2
theorem qNc{s:Site}{l:List Cut}(hl:∀i (hi:i<l.length),OkCut s l[i]){o:List Nat}(ho:∀k∈o,k<l.length):∀i (hi:i<(qvm l o).length),OkCut s (qvm l o)[i]:=fun i hi=>by
 have hio:i<o.length:=by rw[←qtH ho];exact hi
 rw[qM0 ho hio hi]
 exact hl _ _
theorem qNg{o:List Nat}(hn:o.Nodup){i:Nat}(hi:i<o.length):qiF (Ord.setP (o.take i)) o[i]=false:=by
 rw[qju,qAG]
 refine decide_eq_false fun hm=>?_
 obtain⟨j,hj,e2⟩:=List.getElem_of_mem hm
 rw[List.getElem_take]at e2
 have hj':j<i:=by rw[List.length_take]at hj;omega
 have:=(List.getElem_inj hn).1 e2
 omega
theorem qNh{s:Site}{l:List Cut}(hl:∀i (hi:i<l.length),OkCut s l[i]){o:List Nat}(ho:IsO l.length o){i:Nat}(hi:i<o.length):prE s (qvm l o) i=qaK s l (Ord.setP (o.take i)) o[i]:=by
 have hsl:=qtH (l:=l) ho.lt
 have hk:=ho.lt _ (List.getElem_mem hi)
 rw[qtA (by omega),qyz (qNb hl) ho i (by omega),qM0 ho.lt hi (by omega)]
 unfold qaK qtD
 rw[if_pos (qNg ho.nd hi),List.getElem?_eq_getElem hk]
theorem qMT{s:Site}{l:List Cut}(hl:∀i (hi:i<l.length),OkCut s l[i]){o:List Nat}(ho:IsO l.length o):∀i,i≤o.length→prS s (qvm l o) i=Ord.ql1 (qaK s l) 0 (o.take i)
 |0,_=>rfl
 |i+1,h=>by
  have ih:=qMT hl ho i (by omega)
  have hi:i<o.length:=by omega
  rw[prS,ih,Ord.qNf hi,qNh hl ho hi]
theorem qNi{s:Site}{l:List Cut}(hl:∀i (hi:i<l.length),OkCut s l[i]){o:List Nat}(ho:IsO l.length o):prS s (qvm l o) (qvm l o).length=Ord.ql1 (qaK s l) 0 o:=by
 have:=qMT (s:=s) hl ho o.length (Nat.le_refl _)
 rw[List.take_length]at this
 rw[qtH ho.lt]
 exact this
theorem qNk{s:Site}(hs:OkSite s)(h100:s.bed.levels.length≤100){l:List Cut}(hl:∀i (hi:i<l.length),OkCut s l[i]){o:List Nat}(ho:o∈Ord.ordL l.length (qaq s l) l.length 0):∀i,i<(qvm l o).length→0≤prE s (qvm l o) i∧prE s (qvm l o) i≤1000000000000000:=fun i hi=>by
 obtain⟨hio,hlen⟩:=qDD ho
 have hi2:i<o.length:=by rw[←qtH hio.lt];exact hi
 rw[qNh hl hio hi2]
 exact qyH hs h100 hl _ _ (hio.lt _ (List.getElem_mem hi2)) (Ord.qNn (Ord.qMZ.1 ho).2.2 hi2)
def qAX(l:List Cut):Bool:=decide (l.length≤4∨8<l.length)
theorem qFV(l:List Cut)(hl:l.length≤9223372036854775807):Contract Tryz.prog 32 [.sl (l.map encCut)] (.ret (.bool (qAX l))):=by
 by_cases h:l.length≤4∨8<l.length
 ·have e:qAX l=true:=decide_eq_true h
  rw[e]
  refine zT mix Tryz.func32 Tryz.ntmps32 Tryz.results32 rfl rfl rfl ?_;simp only[qab,Nat.reduceAdd]
  repeat'(first|(with_reducible rfl)|refine zQ ?_|(refine zG ?_ ?_<;>first|intro h|simp)|refine zE ?_|fail)
  all_goals first|rfl|(exfalso;omega)|(simp;omega)|trace_state
 ·have e:qAX l=false:=decide_eq_false h
  rw[e]
  refine zT mix Tryz.func32 Tryz.ntmps32 Tryz.results32 rfl rfl rfl ?_;simp only[qab,Nat.reduceAdd]
  repeat'(first|refine zQ ?_|(refine zG ?_ ?_<;>first|intro h|simp)|refine zE ?_|fail)
  all_goals first|rfl|(exfalso;omega)|(simp;omega)|trace_state
def qAY(s:Site)(l:List Cut)(set k:Nat):Bool:=match l[k]? with
 |some c=> !qiF set k&&qjl s (qd3 s l set) c
 |none=>false
def qqA(s:Site)(l:List Cut):Bool:=(List.range (2^l.length)).all fun set=>(List.range l.length).all fun k=> !qAY s l set k
theorem qAZ{s:Site}{l:List Cut}{set k:Nat}(h1:set<2^l.length)(h2:k<l.length)(h:qAY s l set k=true):qqA s l=false:=by
 rw[Bool.eq_false_iff]
 intro hh
 have:=List.all_eq_true.1 (List.all_eq_true.1 hh set (List.mem_range.2 h1)) k (List.mem_range.2 h2)
 rw[h]at this
 cases this
theorem qy2{s:Site}{l:List Cut}(h:∀set,set<2^l.length→∀k,k<l.length→qAY s l set k=false):qqA s l=true:=
 List.all_eq_true.2 fun set hs=>List.all_eq_true.2 fun k hk=>by rw[h set (List.mem_range.1 hs) k (List.mem_range.1 hk)];rfl
theorem qDX(s:Site)(hz:Sized s)(hs:OkSite s)(h100:s.bed.levels.length≤100)(l:List Cut)(hll:l.length≤8)(hl:∀i (hi:i<l.length),OkCut s l[i]):Contract Tryz.prog 34 [.agg (encSite s),.sl (l.map encCut)] (.ret (.bool (qqA s l))):=by
 obtain⟨p8,p1⟩:=qy6 hll
 refine zT mix Tryz.func34 Tryz.ntmps34 Tryz.results34 rfl rfl rfl ?_;simp only[qab,Nat.reduceAdd]
 repeat'(first|refine zQ ?_|fail)
 refine qad (2^l.length) (fun i=>⟨[(5,.int .i64 i),(1,.sl (l.map encCut)),(2,.op 0 0 0)],[(0,⟨12,true,[encSite s]⟩)],32,37⟩) (fun i=>∀t,t<i→∀k,k<l.length→qAY s l t k=false) ?_ (fun t ht=>absurd ht (by omega)) ?_
 ·exact qaa (nx:=32) (k:=0) (ns:=[]) (ks:=[5,1,2]) [(0,0)] rfl (by simp) (by kernel_rfl)
 intro i hi hC
 by_cases hL:i<2^l.length
 rotate_left
 ·rw[qy2 fun t ht k hk=>hC t (by omega) k hk]
  repeat'(first|((with_reducible apply qce);rfl;rfl;rfl;omega)|(with_reducible rfl)|refine zS ?_|refine zA ?_|(refine zC ?_ ?_<;>first|intro h|simp)|refine zE ?_|fail)
  all_goals first|rfl|exact absurd hL (by omega)|(exfalso;omega)|trace_state
 repeat'(first|((with_reducible apply qce);rfl;rfl;rfl;omega)|refine zS ?_|refine zA ?_|(refine zC ?_ ?_<;>first|intro h|simp)|refine zE ?_|fail)
 all_goals try(exfalso;omega)
 refine qad l.length (fun k=>⟨[(6,.int .i64 k),(5,.int .i64 i),(1,.sl (l.map encCut)),(2,.op 0 0 0)],[(0,⟨12,true,[encSite s]⟩)],32,37⟩) (fun k=>∀j,j<k→qAY s l i j=false) ?_ (fun t ht=>absurd ht (by omega)) ?_
 ·exact qaa (nx:=32) (k:=0) (ns:=[]) (ks:=[6,5,1,2]) [(0,0)] rfl (by simp) (by kernel_rfl)
 intro k hk hJ
 by_cases hK:k<l.length
 rotate_left
 ·repeat'(first|refine zQ ?_|(refine zC ?_ ?_<;>first|intro h|simp)|(refine zG ?_ ?_<;>first|intro h|simp)|((with_reducible apply qaz);rfl;rfl)|fail)
  all_goals first
   |exact absurd hK (by omega)
   |exact⟨hL,(fun t ht j hj=>by
     rcases Nat.lt_succ_iff_lt_or_eq.1 ht with h'|rfl
     ·exact hC t h' j hj
     ·exact hJ j (by omega)),qaa (nx:=32) (k:=0) (ns:=[]) (ks:=[5,1,2]) [(0,0)] rfl (by simp) (by kernel_rfl)⟩
   |trace_state
 have hok:=ql0 hs hl (set:=i) l.length
 have hlen:=hok.len hs.bed
 have h1:=qtO s hs l hll hl i (by omega)
 have h2:=qx0 s hs hz (qd3 s l i) hok (by unfold qd3;omega) l[k] (hl k hK)
 have hbd:qAY s l i k=(!qiF i k&&qjl s (qd3 s l i) l[k]):=by simp only[qAY,List.getElem?_eq_getElem hK]
 have hno:=qAZ (s:=s) (l:=l) (set:=i) (k:=k) hL hK
 generalize qqA s l=R at*
 generalize qjl s (qd3 s l i) l[k]=lo at*
 generalize qd3 s l i=g at*
 cases hb:qiF i k with
 |true=>
  have hm:i/2^k%2=1:=of_decide_eq_true hb
  have hf:qAY s l i k=false:=by rw[hbd,hb];rfl
  repeat'(first|((with_reducible apply qdx);rfl;rfl;rfl;omega)|refine zS ?_|refine zA ?_|refine zF h1 ?_|refine zF h2 ?_|(refine zI ?_;intro hlt)|(refine zC ?_ ?_<;>first|intro h|simp)|(refine zG ?_ ?_<;>first|intro h|simp)|refine zE ?_|fail)
  all_goals first
   |exact absurd hK (by omega)
   |(exfalso;simp only[tm2]at *;omega)
   |exact⟨hK,(fun j hj=>by
     rcases Nat.lt_succ_iff_lt_or_eq.1 hj with h'|rfl
     ·exact hJ j h'
     ·exact hf),qaa (nx:=32) (k:=0) (ns:=[]) (ks:=[6,5,1,2]) [(0,0)] rfl (by simp) (by kernel_rfl)⟩
   |trace_state
 |false=>
  have hm:¬i/2^k%2=1:=of_decide_eq_false hb
  cases lo with
  |true=>
   rw[hno (by rw[hbd,hb];rfl)]
   repeat'(first|((with_reducible apply qdx);rfl;rfl;rfl;omega)|(with_reducible rfl)|refine zS ?_|refine zA ?_|refine zF h1 ?_|refine zF h2 ?_|(refine zI ?_;intro hlt)|(refine zC ?_ ?_<;>first|intro h|simp)|(refine zG ?_ ?_<;>first|intro h|simp)|refine zE ?_|fail)
   all_goals first|rfl|exact absurd hK (by omega)|(exfalso;simp only[tm2]at *;omega)|trace_state
  |false=>
   have hf:qAY s l i k=false:=by rw[hbd,hb];rfl
   repeat'(first|((with_reducible apply qdx);rfl;rfl;rfl;omega)|refine zS ?_|refine zA ?_|refine zF h1 ?_|refine zF h2 ?_|(refine zI ?_;intro hlt)|(refine zC ?_ ?_<;>first|intro h|simp)|(refine zG ?_ ?_<;>first|intro h|simp)|fail)
   all_goals first
    |exact absurd hK (by omega)
    |(exfalso;simp only[tm2]at *;omega)
    |exact⟨hK,(fun j hj=>by
      rcases Nat.lt_succ_iff_lt_or_eq.1 hj with h'|rfl
      ·exact hJ j h'
      ·exact hf),qaa (nx:=32) (k:=0) (ns:=[]) (ks:=[6,5,1,2]) [(0,0)] rfl (by simp) (by kernel_rfl)⟩
    |trace_state
end Go.Pv.Soil

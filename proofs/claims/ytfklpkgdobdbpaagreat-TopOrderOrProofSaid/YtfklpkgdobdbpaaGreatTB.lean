import Derived.Test.YtfklpkgdobdbpaaGreatCBW
/- Part of the proofs over YtfklpkgdobdbpaaGreat: SupN11, SupQ3, CFactsB, Q7, Q8, N95, N81, N101. -/
set_option linter.unusedVariables false
set_option linter.unusedSimpArgs false
set_option linter.unnecessarySimpa false
open Go Go.Proofs Go.Pv
set_option maxHeartbeats 8000000
set_option maxRecDepth 100000
set_option linter.unusedSimpArgs false
set_option linter.unusedVariables false
namespace Go.Pv.Soil
theorem qNs:qjg qcx 1:=fun _=>⟨rfl,rfl,rfl⟩
end Go.Pv.Soil
namespace Go.Pv.Ord
variable {n:Nat}{R p:Nat→Nat→Int}
theorem qNj{m s:Nat}{c:Int}(h:planO n R p m s=some c){l:List Nat}(hl:l∈ordL n R m s):c≤ql1 p s l:=by
 obtain⟨⟨l1,l2,e,g1,g2⟩,g3⟩:=(plan_first m s).2 c h
 rw[e]at hl
 rcases List.mem_append.1 hl with hl|hl
 ·have:=g1 l hl;omega
 ·rcases List.mem_cons.1 hl with rfl|hl
  ·omega
  ·have:=g2 l hl;omega
end Go.Pv.Ord
namespace Go.Pv.Tf
instance qNy:TZero Tryz.prog 42 (.int .i64 0):=⟨by kernel_rfl,rfl,by decide⟩
instance qNw:TCells Tryz.prog 188 1:=⟨by kernel_rfl,by decide⟩
end Go.Pv.Tf
namespace Go.Pv.Ord
variable {n:Nat}{R p:Nat→Nat→Int}
theorem qMX{α:Type}{f:α→Int}{l:List α}{x:α}(h:qov f l x){b:Nat}(hb:b<l.length)(h1:∀j (hj:j<b),f l[b]<f (l[j]'(by omega)))(h2:∀j (hj:j<l.length),f l[b]≤f l[j]):l[b]=x:=by
 obtain⟨l1,l2,rfl,g1,g2⟩:=h
 have hx:(l1++x::l2)[l1.length]'(by simp)=x:=by simp
 rcases Nat.lt_trichotomy b l1.length with hlt|rfl|hgt
 ·exfalso
  have e:(l1++x::l2)[b]=l1[b]:=List.getElem_append_left hlt
  have k1:=g1 l1[b] (List.getElem_mem hlt)
  have k2:=h2 l1.length (by simp)
  rw[hx,e]at k2
  omega
 ·exact hx
 ·exfalso
  have k1:=h1 l1.length hgt
  rw[hx]at k1
  have hm:(l1++x::l2)[b]∈x::l2:=by
   rw[List.getElem_append_right (by omega)]
   exact List.getElem_mem _
  rcases List.mem_cons.1 hm with e|e
  ·rw[e]at k1;omega
  ·have:=g2 _ e;omega
theorem qMy:∀{o:List Nat} {s:Nat},ql1 (fun _ _=>0) s o=0
 |[],_=>rfl
 |k::o,s=>by simp only[ql1,qMy (o:=o)];rfl
theorem qNk{m s:Nat}:planO n R (fun _ _=>0) m s=none∧ordL n R m s=[]∨planO n R (fun _ _=>0) m s=some 0∧∃h:0<(ordL n R m s).length,qbn n R (fun _ _=>0) m s=(ordL n R m s)[0]:=by
 obtain⟨h1,h2⟩:=plan_first (n:=n) (R:=R) (p:=fun _ _=>0) m s
 cases hp:planO n R (fun _ _=>0) m s with
 |none=>exact .inl ⟨rfl,h1 hp⟩
 |some c=>
  obtain⟨g1,g2⟩:=h2 c hp
  rw[qMy]at g2
  have hl:0<(ordL n R m s).length:=by
   obtain⟨l1,l2,e,_⟩:=g1
   rw[e,List.length_append,List.length_cons];omega
  refine .inr ⟨by rw[←g2],hl,?_⟩
  exact(qMX g1 hl (fun j hj=>absurd hj (by omega)) fun j hj=>by rw[qMy,qMy];omega).symm
theorem qMY{m s:Nat}:planO n R p m s=none↔ordL n R m s=[]:=by
 obtain⟨h1,h2⟩:=plan_first (n:=n) (R:=R) (p:=p) m s
 refine⟨h1,fun h=>?_⟩
 cases hp:planO n R p m s with
 |none=>rfl
 |some c=>
  obtain⟨⟨l1,l2,e,_⟩,_⟩:=h2 c hp
  rw[h]at e
  simp at e
def qMG(R:Nat→Nat→Int):Nat→List Nat→Bool
 |_,[]=>true
 |s,k::r=>nx R s k&&qMG R (s|||2^k) r
def qNb(s:Nat)(o:List Nat):Nat:=o.foldl (fun s k=>s|||2^k) s
theorem qM7{o:List Nat}:qNb 0 o=setP o:=rfl
theorem qMH:∀{o:List Nat} {s k:Nat},qMG R s (o++[k])=(qMG R s o&&nx R (qNb s o) k)
 |[],s,k=>by simp[qMG,qNb]
 |j::o,s,k=>by
  simp only[List.cons_append,qMG,qMH (o:=o),qNb,List.foldl_cons,Bool.and_assoc]
theorem qMB:∀{o:List Nat} {s k:Nat},ql1 p s (o++[k])=ql1 p s o+p (qNb s o) k
 |[],s,k=>by simp[ql1,qNb]
 |j::o,s,k=>by
  simp only[List.cons_append,ql1,qMB (o:=o),qNb,List.foldl_cons]
  omega
theorem qMI{o:List Nat}{i:Nat}(h:i<o.length):qMG R 0 (o.take (i+1))=(qMG R 0 (o.take i)&&nx R (setP (o.take i)) o[i]):=by
 rw[List.take_succ_eq_append_getElem h,qMH,qM7]
theorem qNm{o:List Nat}{i:Nat}(h:i<o.length):ql1 p 0 (o.take (i+1))=ql1 p 0 (o.take i)+p (setP (o.take i)) o[i]:=by
 rw[List.take_succ_eq_append_getElem h,qMB,qM7]
theorem qMR:∀{m s:Nat} {o:List Nat},o∈ordL n R m s↔o.length=m∧(∀k∈o,k<n)∧qMG R s o=true
 |0,s,o=>by
  simp only[ordL,List.mem_singleton,List.length_eq_zero_iff]
  constructor
  ·rintro rfl;simp[qMG]
  ·exact fun h=>h.1
 |m+1,s,o=>by
  simp only[ordL,List.mem_flatMap,List.mem_range]
  constructor
  ·rintro⟨k,hk,h⟩
   split at h
   ·rename_i hx
    obtain⟨r,hr,rfl⟩:=List.mem_map.1 h
    obtain⟨h1,h2,h3⟩:=qMR.1 hr
    refine⟨by simp[h1],fun j hj=>?_,by simp[qMG,hx,h3]⟩
    rcases List.mem_cons.1 hj with rfl|hj
    ·exact hk
    ·exact h2 j hj
   ·cases h
  ·rintro⟨h1,h2,h3⟩
   cases o with
   |nil=>simp at h1
   |cons k r=>
    simp only[qMG,Bool.and_eq_true]at h3
    refine⟨k,h2 k (by simp),?_⟩
    rw[if_pos h3.1]
    exact List.mem_map.2 ⟨r,qMR.2 ⟨by simpa using h1,fun j hj=>h2 j (by simp[hj]),h3.2⟩,rfl⟩
theorem qNx{o:List Nat}(h:qMG R 0 o=true):∀{i:Nat} (hi:i<o.length),nx R (setP (o.take i)) o[i]=true:=by
 intro i hi
 have key:∀d,i+1+d=o.length→qMG R 0 (o.take (i+1))=true:=by
  intro d
  suffices H:∀d j,j+d=o.length→qMG R 0 (o.take j)=true by exact H d (i+1)
  intro d
  induction d with
  |zero=>intro j hj;rw[show j=o.length by omega,List.take_length];exact h
  |succ d ih=>
   intro j hj
   have:=ih (j+1) (by omega)
   rw[qMI (by omega),Bool.and_eq_true]at this
   exact this.1
 have:=key (o.length-(i+1)) (by omega)
 rw[qMI hi,Bool.and_eq_true]at this
 exact this.2
def qNf:Nat→List Nat→Int→List Nat
 |0,_,_=>[]
 |m+1,L,c=>L.getD (c%((m+1:Nat):Int)).toNat 0::qNf m (L.take (c%((m+1:Nat):Int)).toNat++L.drop ((c%((m+1:Nat):Int)).toNat+1)) (c.tdiv ((m+1:Nat):Int))
theorem qMU:∀{m:Nat} {L:List Nat} {c:Int},L.length=m→(qNf m L c).Perm L
 |0,L,c,h=>by
  rw[List.length_eq_zero_iff.1 h]
  exact .refl _
 |m+1,L,c,h=>by
  unfold qNf
  have hk:(c%((m+1:Nat):Int)).toNat<L.length:=by
   have:=Int.emod_lt_of_pos c (show(0:Int)<((m+1:Nat):Int)by omega)
   omega
  generalize (c%((m+1:Nat):Int)).toNat=k at*
  have e:L.getD k 0=L[k]:=by rw[List.getD_eq_getElem?_getD,List.getElem?_eq_getElem hk];rfl
  rw[e]
  have ih:=qMU (m:=m) (L:=L.take k++L.drop (k+1)) (c:=c.tdiv ((m+1:Nat):Int)) (by
   rw[List.length_append,List.length_take,List.length_drop];omega)
  refine(List.Perm.cons _ ih).trans ?_
  have h2:L=L.take k++L[k]::L.drop (k+1):=by
   rw[←List.drop_eq_getElem_cons hk,List.take_append_drop]
  refine List.Perm.trans (List.perm_middle.symm) ?_
  rw[←h2]
end Go.Pv.Ord
namespace Go.Pv.Soil
theorem qMA{s:Site}{l:List Cut}(hl:∀i (hi:i<l.length),OkCut s l[i]):∀i (hi:i<l.length),l[i].level<30000:=fun i hi=>by
 have:=(hl i hi).lvl
 omega
theorem qMx{l:List Cut}{o:List Nat}(h:∀k∈o,k<l.length){i:Nat}(hi:i<o.length)(hi2:i<(qvm l o).length):(qvm l o)[i]=l[o[i]]'(h _ (List.getElem_mem hi)):=by
 have:=qtI (l:=l) h i hi
 rw[List.getElem?_eq_some_iff]at this
 exact this.2
theorem qME{s:Site}{l:List Cut}(hl:∀i (hi:i<l.length),OkCut s l[i]){o:List Nat}(ho:∀k∈o,k<l.length):∀i (hi:i<(qvm l o).length),OkCut s (qvm l o)[i]:=fun i hi=>by
 have hio:i<o.length:=by rw[←qtH ho];exact hi
 rw[qMx ho hio hi]
 exact hl _ _
theorem qM8{o:List Nat}(hn:o.Nodup){i:Nat}(hi:i<o.length):qiF (Ord.setP (o.take i)) o[i]=false:=by
 rw[qju,qAG]
 refine decide_eq_false fun hm=>?_
 obtain⟨j,hj,e2⟩:=List.getElem_of_mem hm
 rw[List.getElem_take]at e2
 have hj':j<i:=by rw[List.length_take]at hj;omega
 have:=(List.getElem_inj hn).1 e2
 omega
theorem qNt{s:Site}{l:List Cut}(hl:∀i (hi:i<l.length),OkCut s l[i]){o:List Nat}(ho:IsO l.length o){i:Nat}(hi:i<o.length):prE s (qvm l o) i=qaK s l (Ord.setP (o.take i)) o[i]:=by
 have hsl:=qtH (l:=l) ho.lt
 have hk:=ho.lt _ (List.getElem_mem hi)
 rw[qtA (by omega),qyz (qMA hl) ho i (by omega),qMx ho.lt hi (by omega)]
 unfold qaK qtD
 rw[if_pos (qM8 ho.nd hi),List.getElem?_eq_getElem hk]
theorem qMJ{s:Site}{l:List Cut}(hl:∀i (hi:i<l.length),OkCut s l[i]){o:List Nat}(ho:IsO l.length o):∀i,i≤o.length→prS s (qvm l o) i=Ord.ql1 (qaK s l) 0 (o.take i)
 |0,_=>rfl
 |i+1,h=>by
  have ih:=qMJ hl ho i (by omega)
  have hi:i<o.length:=by omega
  rw[prS,ih,Ord.qNm hi,qNt hl ho hi]
theorem qNn{s:Site}{l:List Cut}(hl:∀i (hi:i<l.length),OkCut s l[i]){o:List Nat}(ho:IsO l.length o):prS s (qvm l o) (qvm l o).length=Ord.ql1 (qaK s l) 0 o:=by
 have:=qMJ (s:=s) hl ho o.length (Nat.le_refl _)
 rw[List.take_length]at this
 rw[qtH ho.lt]
 exact this
theorem qNo{x:Option (Int×Int)}(h:∀v,x=some v→v.1≠0):decide (qAA x=0)=x.isNone:=by
 cases x with
 |none=>rfl
 |some v=>exact decide_eq_false (h v rfl)
theorem qMK{s:Site}{l:List Cut}(hl:∀i (hi:i<l.length),OkCut s l[i]){o:List Nat}(ho:IsO l.length o){i:Nat}(hi:i<o.length):Ord.nx (qaq s l) (Ord.setP (o.take i)) o[i]=(qfg s (qcz s (qvm l o) i) (l[o[i]]'(ho.lt _ (List.getElem_mem hi)))).isNone:=by
 have hk:=ho.lt _ (List.getElem_mem hi)
 have hb:=qM8 ho.nd hi
 rw[qyz (qMA hl) ho i (by omega)]
 unfold Ord.nx qaq qou
 rw[if_pos hb,←qju,hb,List.getElem?_eq_getElem hk]
 simp only[Bool.not_false,Bool.true_and]
 exact qNo fun v h=>qyG h
theorem qML{n:Nat}{o:List Nat}(ho:IsO n o)(h:o.length=n):Ord.setP o=2^n-1:=by
 apply Nat.eq_of_testBit_eq
 intro j
 rw[Nat.testBit_two_pow_sub_one,qAG]
 by_cases hj:j<n
 ·rw[decide_eq_true hj]
  refine decide_eq_true ?_
  refine Classical.byContradiction fun hm=>?_
  have hnd:(j::o).Nodup:=List.nodup_cons.2 ⟨hm,ho.nd⟩
  have hsub:∀x∈j::o,x∈List.range n:=fun x hx=>by
   rcases List.mem_cons.1 hx with rfl|hx
   ·exact List.mem_range.2 hj
   ·exact List.mem_range.2 (ho.lt x hx)
  have key:∀{l:List Nat},l.Nodup→∀{m:List Nat},(∀x∈l,x∈m)→l.length≤m.length:=by
   intro l
   induction l with
   |nil=>intro _ m _;simp
   |cons a l ih=>
    intro hn m hm
    have h1:=List.nodup_cons.1 hn
    have ha:=hm a (by simp)
    have:=ih h1.2 (m:=m.erase a) fun x hx=>by
     have hne:x≠a:=fun e=>h1.1 (e▸hx)
     exact(List.mem_erase_of_ne hne).2 (hm x (by simp[hx]))
    rw[List.length_erase_of_mem ha]at this
    have hpos:=List.length_pos_of_mem ha
    simp only[List.length_cons]
    omega
  have:=key hnd hsub
  simp only[List.length_cons,List.length_range]at this
  omega
 ·rw[decide_eq_false hj]
  exact decide_eq_false fun hm=>hj (ho.lt j hm)
theorem qMF{n:Nat}:IsO n (List.range n):=⟨fun k hk=>List.mem_range.1 hk,List.nodup_range⟩
theorem qMM{l:List Cut}:qvm l (List.range l.length)=l:=by
 have hr:=qMF (n:=l.length)
 refine List.ext_getElem (by rw[qtH hr.lt,List.length_range]) fun i h1 h2=>?_
 rw[qMx hr.lt (by simpa using h2) h1]
 simp
theorem qNc{s:Site}{l:List Cut}(hl:∀i (hi:i<l.length),OkCut s l[i]){o:List Nat}(ho:IsO l.length o)(h:o.length=l.length):qcz s (qvm l o) o.length=qcz s l l.length:=by
 have h1:=qyz (s:=s) (qMA hl) ho o.length (Nat.le_refl _)
 have h2:=qyz (s:=s) (qMA hl) (qMF (n:=l.length)) l.length (by simp)
 rw[qMM]at h2
 rw[h1,h2,List.take_length,qML ho h]
 have:(List.range l.length).take l.length=List.range l.length:=List.take_of_length_le (by simp)
 rw[this,qML qMF (by simp)]
theorem qNu:qfm encCut 8:=fun _=>⟨rfl,rfl⟩
theorem qMV{l:List Cut}{o:List Nat}{i:Nat}(hi:i<o.length)(h:o[i]<l.length):qvm l (o.take (i+1))=qvm l (o.take i)++[l[o[i]]]:=by
 rw[List.take_succ_eq_append_getElem hi]
 simp only[qvm,List.filterMap_append,List.filterMap_cons,List.getElem?_eq_getElem h,List.filterMap_nil]
theorem qM4(l:List Cut)(hll:l.length≤1000000)(o:List Nat)(ho:∀k∈o,k<l.length)(hol:o.length≤1000000):Contract Tryz.prog 37 [.sl (l.map encCut),.sl (o.map qcx)] (.ret (.sl ((qvm l o).map encCut))):=by
 refine zT mix Tryz.func37 Tryz.ntmps37 Tryz.results37 rfl rfl rfl ?_;simp only[qab,Nat.reduceAdd]
 repeat'(first|refine zQ ?_|fail)
 refine qad o.length (fun i=>⟨[(5,.os 1 0 (qvm l (o.take i)).length),(6,.int .i64 i),(0,.sl (l.map encCut)),(1,.sl (o.map qcx))],[(1,⟨8,true,(qvm l (o.take i)).map encCut⟩)],64,24⟩) (fun i=>True) ?_ trivial ?_
 ·exact qaa (nx:=64) (k:=8) (ns:=[(5,1)]) (ks:=[6,0,1]) [] rfl (by simp;rfl) (by kernel_rfl)
 intro i hi _
 have hsl:(qvm l (o.take i)).length=i:=by rw[qtH (fun k hk=>ho k (List.mem_of_mem_take hk)),List.length_take];omega
 by_cases hL:i<o.length
 ·have hk:=ho o[i] (List.getElem_mem hL)
  have hsu:=qMV (l:=l) hL hk
  repeat'(first|refine zQ ?_|(refine zI ?_;intro hlt)|(refine zC ?_ ?_<;>first|intro h|simp)|fail)
  all_goals try exact absurd hL (by omega)
  refine qaH (f:=encCut) (a:=l[o[i]]) (l:=qvm l (o.take i)) qNu rfl rfl rfl rfl rfl rfl (by kernel_rfl) (by kernel_rfl) (by omega) rfl ?_
  repeat'(first|refine zQ ?_|fail)
  refine⟨hL,trivial,?_⟩
  have el:(qvm l (o.take i)).length+1=(qvm l (o.take (i+1))).length:=by rw[hsu];simp
  rw[←hsu,el]
  exact qaa (nx:=64) (k:=8) (ns:=[]) (ks:=[5,6,0,1]) [(1,1)] rfl (by simp) (by kernel_rfl)
 ·obtain rfl:i=o.length:=by omega
  rw[List.take_length]
  repeat'(first|refine zQ ?_|(refine zI ?_;intro hlt)|(refine zC ?_ ?_<;>first|intro h|simp)|fail)
  all_goals try exact absurd (show o.length<o.length by omega) hL
  exact qwU (f:=encCut) (l:=qvm l o) rfl rfl rfl rfl
theorem qNp(o:List Nat)(ho:o.length≤1000000):Contract Tryz.prog 155 [.sl (o.map qcx)] (.ret (.fr 1 (o.map qcx))):=by
 have:=c70 (o.map fun k:Nat=>(k:Int)) (by rw[List.length_map];omega)
 rw[List.map_map]at this
 exact this
noncomputable def qNi(s:Site)(b:Grid)(c:Cut):Option (Int×Int):=if onE s b c=0 then qfg s b c else none
theorem qMz(s:Site)(hz:Sized s)(hd:s.dreds.length<1000000000000)(b:Grid)(h100:b.levels.length≤100)(c:Cut):Contract Tryz.prog 28 [.agg (encSite s),.agg (qag b),.agg (encCut c)] (.ret (.tup [.agg (qve (qNi s b c)),.bool (qNi s b c).isSome,.int .i64 (onE s b c)])):=by
 have h1:=qpL s hz hd b (by omega) c
 unfold qNi
 by_cases h0:onE s b c=0
 ·rw[if_pos h0]
  obtain⟨_,hs,hc,hb⟩:=qBI h0
  have h2:=qiB s hz hs b hb h100 c hc
  rw[h0]at h1 ⊢
  generalize qfg s b c=o at*
  have hv:∃x y z,qve o=[.int .i64 x,.int .i64 y,.int .i64 z]:=by cases o<;>exact⟨_,_,_,rfl⟩
  obtain⟨x,y,z,hv⟩:=hv
  rw[hv]at h2 ⊢
  refine zT mix Tryz.func28 Tryz.ntmps28 Tryz.results28 rfl rfl rfl ?_;simp only[qab,Nat.reduceAdd]
  repeat'(first|refine zQ ?_|refine zF h1 ?_|refine zF h2 ?_|refine zE ?_|fail)
  all_goals first
   |rfl
   |(exfalso;simp at *;done)
   |trace_state
 ·rw[if_neg h0]
  generalize onE s b c=q at*
  refine zT mix Tryz.func28 Tryz.ntmps28 Tryz.results28 rfl rfl rfl ?_;simp only[qab,Nat.reduceAdd]
  repeat'(first|refine zQ ?_|refine zF h1 ?_|(refine zC ?_ ?_<;>first|intro h|simp)|refine zE ?_|fail)
  all_goals first
   |rfl
   |(exfalso;omega)
   |trace_state
theorem qMO(o:Option (Int×Int)):∃x y z,qve o=[.int .i64 x,.int .i64 y,.int .i64 z]:=by cases o<;>exact⟨_,_,_,rfl⟩
end Go.Pv.Soil

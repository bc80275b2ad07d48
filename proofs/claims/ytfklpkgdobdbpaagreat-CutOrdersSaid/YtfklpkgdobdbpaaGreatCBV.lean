import Derived.Test.YtfklpkgdobdbpaaGreatCBU
/- Part of the proofs over YtfklpkgdobdbpaaGreat: N43, N45, N49, N51, N52, N53, N54, N62, N63. -/
set_option linter.unusedVariables false
set_option linter.unusedSimpArgs false
set_option linter.unnecessarySimpa false
open Go Go.Proofs Go.Pv
set_option maxHeartbeats 8000000
set_option maxRecDepth 100000
set_option linter.unusedSimpArgs false
set_option linter.unusedVariables false
namespace Go.Pv.Soil
noncomputable def qgF(s:Site)(l:List Cut):Option (Nat×Int×Int):=if qcy s l=0 then qbb s l l.length else none
theorem qlX(o:Option (Nat×Int×Int)):∃x y z,qyo o=[.int .i64 x,.int .i64 y,.int .i64 z]:=by
 cases o with
 |none=>exact⟨_,_,_,rfl⟩
 |some v=>exact⟨_,_,_,rfl⟩
theorem qos(s:Site)(hz:Sized s)(hd:s.dreds.length<1000000000000)(h100:s.bed.levels.length≤100)(l:List Cut)(hl:l.length≤9223372036854775807):Contract Tryz.prog 69 [.agg (encSite s),.sl (l.map encCut)] (.ret (.tup [.agg (qyo (qgF s l)),.bool (qgF s l).isSome,.int .i64 (qcy s l)])):=by
 have h1:=qdK s hz l hl hd
 unfold qgF
 by_cases h0:qcy s l=0
 ·rw[if_pos h0]
  obtain⟨hll,hl2⟩:=qd7 h0
  have h2:=qrG s hz (qcw h0).1 h100 l hll hl2
  rw[h0]at h1 ⊢
  generalize qbb s l l.length=o at*
  generalize spR s l=sr at*
  generalize prR s l=pr at*
  obtain⟨x,y,z,hv⟩:=qlX o
  rw[hv]at h2 ⊢
  refine zT mix Tryz.func69 Tryz.ntmps69 Tryz.results69 rfl rfl rfl ?_;simp only[qab,Nat.reduceAdd]
  repeat'(first|refine zQ ?_|refine zF h1 ?_|refine zF h2 ?_|refine zE ?_|fail)
  all_goals first
   |rfl
   |(exfalso;simp at *;done)
   |trace_state
 ·rw[if_neg h0]
  generalize qcy s l=q at*
  refine zT mix Tryz.func69 Tryz.ntmps69 Tryz.results69 rfl rfl rfl ?_;simp only[qab,Nat.reduceAdd]
  repeat'(first|refine zQ ?_|refine zF h1 ?_|(refine zC ?_ ?_<;>first|intro h|simp)|refine zE ?_|fail)
  all_goals first
   |rfl
   |(exfalso;omega)
   |trace_state
def qvj:Option (Nat×Int×Int)→Int
 |none=>0
 |some v=>v.2.1
noncomputable def qfv(s:Site)(l:List Cut):Int:=if qcy s l≠0 then qcy s l else qvj (qbb s l l.length)
theorem qhJ(s:Site)(hz:Sized s)(hd:s.dreds.length<1000000000000)(h100:s.bed.levels.length≤100)(l:List Cut)(hl:l.length≤9223372036854775807):Contract Tryz.prog 58 [.agg (encSite s),.sl (l.map encCut)] (.ret (.int .i64 (qfv s l))):=by
 have h1:=qos s hz hd h100 l hl
 unfold qfv
 by_cases h0:qcy s l=0
 ·rw[if_neg (not_not_intro h0)]
  have e:qgF s l=qbb s l l.length:=if_pos h0
  rw[h0,e]at h1
  generalize qbb s l l.length=o at*
  cases o with
  |none=>
   refine zT mix Tryz.func58 Tryz.ntmps58 Tryz.results58 rfl rfl rfl ?_;simp only[qab,Nat.reduceAdd]
   repeat'(first|refine zQ ?_|refine zF h1 ?_|refine zE ?_|fail)
   all_goals first
    |rfl
    |(exfalso;simp at *;done)
    |trace_state
  |some v=>
   refine zT mix Tryz.func58 Tryz.ntmps58 Tryz.results58 rfl rfl rfl ?_;simp only[qab,Nat.reduceAdd]
   repeat'(first|refine zQ ?_|refine zF h1 ?_|refine zE ?_|fail)
   all_goals first
    |rfl
    |(exfalso;simp at *;done)
    |trace_state
 ·rw[if_pos h0]
  have e:qgF s l=none:=if_neg h0
  rw[e]at h1
  generalize qcy s l=q at*
  refine zT mix Tryz.func58 Tryz.ntmps58 Tryz.results58 rfl rfl rfl ?_;simp only[qab,Nat.reduceAdd]
  repeat'(first|(with_reducible rfl)|refine zQ ?_|refine zF h1 ?_|(refine zC ?_ ?_<;>first|intro h|simp)|refine zE ?_|fail)
  all_goals first
   |rfl
   |(exfalso;omega)
   |trace_state
instance qKy:TEq Tryz.prog 53 [.i,.i,.i]:=⟨by kernel_rfl⟩
def qFy(a c r:Int):List D:=[.int .i64 a,.int .i64 c,.int .i64 r]
def qH8(o:Option (Nat×Int×Int))(a c r:Int):Prop:=∃k r' c',o=some (k,r',c')∧(k:Int)=a∧c'=c∧r'=r
open Classical in
noncomputable def qvF(s:Site)(l:List Cut)(a c r:Int):Int:=if qcy s l≠0 then qcy s l else if qH8 (qbb s l l.length) a c r then 0 else 21
theorem qf6(s:Site)(hz:Sized s)(hd:s.dreds.length<1000000000000)(h100:s.bed.levels.length≤100)(l:List Cut)(hl:l.length≤9223372036854775807)(a c r:Int):Contract Tryz.prog 72 [.agg (encSite s),.sl (l.map encCut),.agg (qFy a c r)] (.ret (.int .i64 (qvF s l a c r))):=by
 have h1:=qos s hz hd h100 l hl
 unfold qvF
 by_cases h0:qcy s l=0
 ·rw[if_neg (not_not_intro h0)]
  have e:qgF s l=qbb s l l.length:=if_pos h0
  rw[h0,e]at h1
  generalize qbb s l l.length=o at*
  cases o with
  |none=>
   refine zT mix Tryz.func72 Tryz.ntmps72 Tryz.results72 rfl rfl rfl ?_;simp only[qab,Nat.reduceAdd]
   repeat'(first|refine zQ ?_|refine zF h1 ?_|refine zE ?_|fail)
   all_goals first
    |(rw[if_neg];rintro⟨_,_,_,h,_⟩;cases h)
    |trace_state
  |some v=>
   obtain⟨k,r',c'⟩:=v
   refine zT mix Tryz.func72 Tryz.ntmps72 Tryz.results72 rfl rfl rfl ?_;simp only[qab,Nat.reduceAdd]
   repeat'(first|refine zQ ?_|refine zF h1 ?_|(refine zC ?_ ?_<;>first|intro h|simp)|refine zE ?_|fail)
   all_goals simp only[Bool.and_true,Bool.and_eq_true,Bool.and_eq_false_iff,decide_eq_true_eq,decide_eq_false_iff_not]at*
   all_goals first
    |(rw[if_pos];exact⟨k,r',c',rfl,h.1,h.2.1,h.2.2⟩)
    |(rw[if_neg]
      rintro⟨k2,r2,c2,h3,h4,h5,h6⟩
      simp only[Option.some.injEq,Prod.mk.injEq]at h3
      obtain⟨rfl,rfl,rfl⟩:=h3
      rcases h with h|h|h
      ·exact h h4
      ·exact h h5
      ·exact h h6)
    |trace_state
 ·rw[if_pos h0]
  have e:qgF s l=none:=if_neg h0
  rw[e]at h1
  generalize qcy s l=q at*
  refine zT mix Tryz.func72 Tryz.ntmps72 Tryz.results72 rfl rfl rfl ?_;simp only[qab,Nat.reduceAdd]
  repeat'(first|(with_reducible rfl)|refine zQ ?_|refine zF h1 ?_|(refine zC ?_ ?_<;>first|intro h|simp)|refine zE ?_|fail)
  all_goals first
   |rfl
   |(exfalso;omega)
   |trace_state
def qiF(set k:Nat):Bool:=decide (set/2^k%2=1)
def qcP(l:List Cut)(set:Nat):Nat→List Cut
 |0=>[]
 |k+1=>match l[k]? with
  |some c=>if qiF set k=true then qcP l set k++[c]else qcP l set k
  |none=>qcP l set k
def qkt(s:Site)(l:List Cut)(set:Nat):Nat→Grid
 |0=>s.bed
 |k+1=>match l[k]? with
  |some c=>if qiF set k=true then qcu s (qkt s l set k) c else qkt s l set k
  |none=>qkt s l set k
def qd3(s:Site)(l:List Cut)(set:Nat):Grid:=qkt s l set l.length
theorem qlZ{l:List Cut}{set k:Nat}(h:k<l.length):qcP l set (k+1)=if qiF set k=true then qcP l set k++[l[k]]else qcP l set k:=by simp only[qcP,List.getElem?_eq_getElem h]
theorem qiG{s:Site}{l:List Cut}{set k:Nat}(h:k<l.length):qkt s l set (k+1)=if qiF set k=true then qcu s (qkt s l set k) l[k]else qkt s l set k:=by simp only[qkt,List.getElem?_eq_getElem h]
theorem qtC{s:Site}{l:List Cut}{c:Cut}:∀n,n≤l.length→qcz s (l++[c]) n=qcz s l n
 |0,_=>rfl
 |n+1,h=>by
  have ih:=qtC (s:=s) (l:=l) (c:=c) n (by omega)
  rw[qe1 (show n<(l++[c]).length by simp;omega),qe1 (show n<l.length by omega),ih,List.getElem_append_left (by omega)]
theorem qot{s:Site}{l:List Cut}{set:Nat}:∀k,k≤l.length→qcz s (qcP l set k) (qcP l set k).length=qkt s l set k
 |0,_=>rfl
 |k+1,h=>by
  have ih:=qot (s:=s) (l:=l) (set:=set) k (by omega)
  have hk:k<l.length:=by omega
  rw[qlZ hk,qiG hk]
  by_cases hb:qiF set k=true
  ·rw[if_pos hb,if_pos hb,←ih,List.length_append,List.length_singleton,qe1 (by simp),qtC _ (Nat.le_refl _)]
   congr 1
   simp
  ·rw[if_neg hb,if_neg hb,ih]
theorem qiH{l:List Cut}{set:Nat}:∀k,∀c∈qcP l set k,c∈l
 |0,c,h=>by cases h
 |k+1,c,h=>by
  simp only[qcP]at h
  split at h
  ·rename_i d hd
   split at h
   ·rcases List.mem_append.1 h with h|h
    ·exact qiH k c h
    ·simp only[List.mem_singleton]at h
     subst h
     exact List.mem_of_getElem? hd
   ·exact qiH k c h
  ·exact qiH k c h
theorem qiI{l:List Cut}{set:Nat}:∀k,(qcP l set k).length≤k
 |0=>Nat.le_refl _
 |k+1=>by
  have:=qiI (l:=l) (set:=set) k
  simp only[qcP]
  split
  ·split
   ·simp;omega
   ·omega
  ·omega
theorem ql0{s:Site}(h:OkSite s){l:List Cut}(hl:∀i (hi:i<l.length),OkCut s l[i]){set:Nat}:∀k,OkBed s (qkt s l set k)
 |0=>qfW s h
 |k+1=>by
  have ih:=ql0 h hl (set:=set) k
  by_cases hk:k<l.length
  ·rw[qiG hk]
   split
   ·exact qeH h.bed ih (hl k hk)
   ·exact ih
  ·simp only[qkt,List.getElem?_eq_none (Nat.le_of_not_lt hk)];exact ih
def qAA:Option (Int×Int)→Int
 |none=>0
 |some v=>v.1
noncomputable def qou(s:Site)(l:List Cut)(set k:Nat):Int:=match l[k]? with
 |some c=>qAA (qfg s (qd3 s l set) c)
 |none=>0
def qtD(s:Site)(l:List Cut)(set k:Nat):Int:=match l[k]? with
 |some c=>(qcq s (qd3 s l set) c).2.1
 |none=>0
theorem qju{set k:Nat}:qiF set k=set.testBit k:=by
 unfold qiF
 rw[Nat.testBit_eq_decide_div_mod_eq]
theorem qyx{set k j:Nat}:qiF (set|||2^k) j=(qiF set j||decide (k=j)):=by rw[qju,Ord.tb_or,qju]
theorem qyy{s:Site}{b:Grid}{c d:Cut}(hc:c.level<30000)(hd:d.level<30000):qcu s (qcu s b c) d=qcu s (qcu s b d) c:=by
 simp only[qcu,qz4 hc hd]
theorem qqq{s:Site}{l:List Cut}{set k:Nat}:∀j,j≤k→qkt s l (set|||2^k) j=qkt s l set j
 |0,_=>rfl
 |j+1,h=>by
  have ih:=qqq (s:=s) (l:=l) (set:=set) (k:=k) j (by omega)
  have e:qiF (set|||2^k) j=qiF set j:=by rw[qyx,decide_eq_false (by omega),Bool.or_false]
  simp only[qkt,ih,e]
theorem qDC{s:Site}{l:List Cut}{set k:Nat}(hk:k<l.length)(hb:qiF set k=false)(hl:∀i (hi:i<l.length),l[i].level<30000):qd3 s l (set|||2^k)=qcu s (qd3 s l set) l[k]:=by
 have key:∀j,k<j→j≤l.length→qkt s l (set|||2^k) j=qcu s (qkt s l set j) l[k]:=by
  intro j h1 h2
  induction j with
  |zero=>omega
  |succ j ih=>
   have hj:j<l.length:=by omega
   rw[qiG hj,qiG hj]
   by_cases e:j=k
   ·subst e
    rw[qqq j (Nat.le_refl _),hb,qyx,hb]
    simp
   ·have eb:qiF (set|||2^k) j=qiF set j:=by rw[qyx,decide_eq_false (by omega),Bool.or_false]
    rw[eb,ih (by omega) (by omega)]
    split
    ·exact qyy (hl k hk) (hl j hj)
    ·rfl
 exact key _ hk (Nat.le_refl _)
theorem qAF{s:Site}{l:List Cut}:qd3 s l 0=s.bed:=by
 have key:∀j,qkt s l 0 j=s.bed:=by
  intro j
  induction j with
  |zero=>rfl
  |succ j ih=>
   have e:qiF 0 j=false:=by rw[qju];simp
   simp only[qkt,ih,e]
   split<;>rfl
 exact key _
def qvm(l:List Cut)(o:List Nat):List Cut:=o.filterMap fun k=>l[k]?
theorem qtH{l:List Cut}:∀{o:List Nat},(∀k∈o,k<l.length)→(qvm l o).length=o.length
 |[],_=>rfl
 |k::o,h=>by
  have ih:=qtH (l:=l) (o:=o) fun j hj=>h j (by simp[hj])
  simp only[qvm,List.filterMap_cons,List.getElem?_eq_getElem (h k (by simp))]at*
  simp[ih]
theorem qtI{l:List Cut}:∀{o:List Nat} (h:∀k∈o,k<l.length) (i:Nat) (hi:i<o.length),(qvm l o)[i]? =some (l[o[i]]'(h _ (List.getElem_mem hi)))
 |k::o,h,i,hi=>by
  have hk:=h k (by simp)
  simp only[qvm,List.filterMap_cons,List.getElem?_eq_getElem hk]
  cases i with
  |zero=>simp
  |succ i=>
   have:=qtI (l:=l) (o:=o) (fun j hj=>h j (by simp[hj])) i (by simpa using hi)
   simpa[qvm]using this
structure IsO(n:Nat)(o:List Nat):Prop where
 lt:∀k∈o,k<n
 nd:o.Nodup
theorem qAG{o:List Nat}{j:Nat}:(Ord.setP o).testBit j=decide (j∈o):=by
 suffices h:∀(o:List Nat) (s:Nat),(o.foldl (fun s k=>s|||2^k) s).testBit j=(s.testBit j||decide (j∈o))by
  have:=h o 0
  simpa[Ord.setP]using this
 intro o
 induction o with
 |nil=>intro s;simp
 |cons k o ih=>
  intro s
  rw[List.foldl_cons,ih,Ord.tb_or]
  by_cases e:k=j
  ·subst e;simp
  ·have:¬j=k:=fun h=>e h.symm
   simp[e,this]
theorem qyz{s:Site}{l:List Cut}(hl:∀i (hi:i<l.length),l[i].level<30000){o:List Nat}(ho:IsO l.length o):∀i,i≤o.length→qcz s (qvm l o) i=qd3 s l (Ord.setP (o.take i))
 |0,_=>by rw[List.take_zero];exact qAF.symm
 |i+1,h=>by
  have ih:=qyz (s:=s) hl ho i (by omega)
  have hi:i<o.length:=by omega
  have hlen:=qtH (l:=l) ho.lt
  rw[qe1 (by omega),ih]
  have e:o.take (i+1)=o.take i++[o[i]]:=by rw[List.take_succ_eq_append_getElem hi]
  rw[e,Ord.setP_snoc]
  have hb:qiF (Ord.setP (o.take i)) o[i]=false:=by
   rw[qju,qAG]
   refine decide_eq_false fun hm=>?_
   obtain⟨j,hj,e2⟩:=List.getElem_of_mem hm
   rw[List.getElem_take]at e2
   have hj':j<i:=by rw[List.length_take]at hj;omega
   have:=(List.getElem_inj ho.nd).1 e2
   omega
  rw[qDC (ho.lt _ (List.getElem_mem hi)) hb hl]
  congr 1
  have:=qtI (l:=l) ho.lt i hi
  rw[List.getElem?_eq_some_iff]at this
  exact this.2
theorem qtJ{n:Nat}{R:Nat→Nat→Int}:∀{m s:Nat} {o:List Nat},o∈Ord.ordL n R m s→o.length=m∧(∀k∈o,k<n∧s.testBit k=false)∧o.Nodup
 |0,s,o,h=>by
  simp only[Ord.ordL,List.mem_singleton]at h
  subst h
  simp
 |m+1,s,o,h=>by
  obtain⟨k,hk,h⟩:=List.mem_flatMap.1 h
  split at h
  ·rename_i hn
   obtain⟨r,hr,rfl⟩:=List.mem_map.1 h
   obtain⟨h1,h2,h3⟩:=qtJ hr
   have hb:=Ord.nx_bit hn
   refine⟨by simp[h1],fun j hj=>?_,?_⟩
   ·rcases List.mem_cons.1 hj with rfl|hj
    ·exact⟨List.mem_range.1 hk,hb⟩
    ·obtain⟨h4,h5⟩:=h2 j hj
     rw[Ord.tb_or,Bool.or_eq_false_iff]at h5
     exact⟨h4,h5.1⟩
   ·rw[List.nodup_cons]
    refine⟨fun hm=>?_,h3⟩
    have:=(h2 k hm).2
    rw[Ord.tb_or]at this
    simp at this
  ·cases h
theorem qDD{n:Nat}{R:Nat→Nat→Int}{o:List Nat}(h:o∈Ord.ordL n R n 0):IsO n o∧o.length=n:=by
 obtain⟨h1,h2,h3⟩:=qtJ h
 exact⟨⟨fun k hk=>(h2 k hk).1,h3⟩,h1⟩
def qaJ(r:List Int):List D:=[.sl (r.map qal)]
theorem qox:qjg qaJ 1:=fun _=>⟨rfl,rfl,rfl⟩
def qfA(n:Nat)(T:Nat→Nat→Int)(s:Nat):List Int:=(List.range n).map (T s)
def qaX(n:Nat)(T:Nat→Nat→Int)(m:Nat):List (List Int):=(List.range m).map (qfA n T)
theorem qe2{n:Nat}{T:Nat→Nat→Int}{s:Nat}:(qfA n T s).length=n:=by simp[qfA]
theorem qfx{n m:Nat}{T:Nat→Nat→Int}:(qaX n T m).length=m:=by simp[qaX]
theorem qku{n:Nat}{T:Nat→Nat→Int}{s k:Nat}(h:k<(qfA n T s).length):(qfA n T s)[k]=T s k:=by simp[qfA]
theorem qiJ{n m:Nat}{T:Nat→Nat→Int}{s:Nat}(h:s<(qaX n T m).length):(qaX n T m)[s]=qfA n T s:=by simp[qaX]
theorem qnp{n m:Nat}{T:Nat→Nat→Int}:qaX n T (m+1)=qaX n T m++[qfA n T m]:=by simp[qaX,List.range_succ]
def qeS(n:Nat)(rl pl:List (List Int)):D:=.ptr [.int .i64 n,.sl (rl.map qaJ),.sl (pl.map qaJ)]
theorem qy6{n:Nat}(h:n≤8):2^n≤256∧1≤2^n:=⟨Nat.pow_le_pow_right (by omega) h,Nat.one_le_two_pow⟩
theorem qAH(n:Nat)(hn:n≤8)(rl pl:List (List Int)):Contract Tryz.prog 128 [qeS n rl pl] (.ret (.int .i64 (((2^n:Nat):Int)-1))):=by
 have hp:=qy6 hn
 unfold qeS
 refine zT mix Tryz.func128 Tryz.ntmps128 Tryz.results128 rfl rfl rfl ?_;simp only[qab,Nat.reduceAdd]
 repeat'(first|((with_reducible apply qao);rfl;rfl)|((with_reducible apply qce);rfl;rfl;rfl;omega)|(with_reducible rfl)|refine zS ?_|refine zA ?_|refine zE ?_|fail)
 all_goals trace_state
theorem qDE(n:Nat)(hn:n≤8)(rl pl:List (List Int))(r:List Int)(v:Int)(set k:Nat)(hk:k<n)(hset:set≤1000)(hr:rl[set]? =some r)(hrl:r.length=n)(hv:r[k]? =some v):Contract Tryz.prog 130 [qeS n rl pl,.int .i64 set,.int .i64 k] (.ret (.bool (decide (set/2^k%2=0)&&decide (v=0)))):=by
 have hs':set<rl.length:=by
  rcases Nat.lt_or_ge set rl.length with h|h
  ·exact h
  ·rw[List.getElem?_eq_none h]at hr;cases hr
 have hg1:rl[set]'hs'=r:=by rw[List.getElem?_eq_getElem hs']at hr;exact Option.some.inj hr
 have hl3:(rl[set]'hs').length=n:=by rw[hg1];exact hrl
 have hk3:k<(rl[set]'hs').length:=by omega
 have hg2:(rl[set]'hs')[k]'hk3=v:=by
  rw[List.getElem?_eq_getElem (by omega)]at hv
  simp only[hg1]
  exact Option.some.inj hv
 unfold qeS
 refine zT mix Tryz.func130 Tryz.ntmps130 Tryz.results130 rfl rfl rfl ?_;simp only[qab,Nat.reduceAdd]
 repeat'(first|((with_reducible apply qao);rfl;rfl)|((with_reducible apply qdx);rfl;rfl;rfl;omega)|((with_reducible apply qeD);rfl;rfl;rfl)|refine zS ?_|refine zA ?_|(refine zI ?_;intro hlt)|(refine zG ?_ ?_<;>first|intro h|simp)|refine zE ?_|fail)
 all_goals first
  |(simp only[hg2,decide_eq_true (show set/2^k%2=0 by omega),Bool.true_and];done)
  |(rw[decide_eq_false (show ¬set/2^k%2=0 by omega)];rfl)
  |trace_state
theorem qtK(n:Nat)(hn:n≤8)(T:Nat→Nat→Int)(pl:List (List Int))(set k:Nat)(hs:set<2^n)(hk:k<n):Contract Tryz.prog 130 [qeS n (qaX n T (2^n)) pl,.int .i64 set,.int .i64 k] (.ret (.bool (Ord.nx T set k))):=by
 have hp:=qy6 hn
 have e:Ord.nx T set k=(decide (set/2^k%2=0)&&decide (T set k=0)):=by
  unfold Ord.nx
  rw[Nat.testBit_eq_decide_div_mod_eq]
  congr 1
  rw[Bool.eq_iff_iff]
  simp only[Bool.not_eq_true',decide_eq_false_iff_not,decide_eq_true_eq]
  omega
 rw[e]
 exact qDE n hn _ pl (qfA n T set) (T set k) set k hk (by omega) (by rw[List.getElem?_eq_getElem (by rw[qfx];exact hs),qiJ]) qe2 (by rw[List.getElem?_eq_getElem (by rw[qe2];exact hk),qku])
open Go.Pv.Ord
def qoy(o:Option Int):List D:=[.int .i64 (o.getD 0)]
def qiK(o:Option Int):List D:=[.bool o.isSome]
theorem qyA{n:Nat}{R p:Nat→Nat→Int}{B:Int}(hB:∀s k,k<n→nx R s k=true→0≤p s k∧p s k≤B):∀(m s:Nat) (o:List Nat),o∈ordL n R m s→0≤ql1 p s o∧ql1 p s o≤m*B
 |0,s,o,h=>by
  simp only[ordL,List.mem_singleton]at h
  subst h
  simp[ql1]
 |m+1,s,o,h=>by
  obtain⟨k,hk,h⟩:=List.mem_flatMap.1 h
  split at h
  ·rename_i hn
   obtain⟨r,hr,rfl⟩:=List.mem_map.1 h
   have h1:=qyA hB m _ r hr
   have h2:=hB s k (List.mem_range.1 hk) hn
   simp only[ql1,Int.natCast_add,Int.natCast_one,Int.add_mul,Int.one_mul]
   omega
  ·cases h
theorem qyB{n:Nat}{R p:Nat→Nat→Int}{B:Int}(hB:∀s k,k<n→nx R s k=true→0≤p s k∧p s k≤B){m s:Nat}{q:Int}(h:planO n R p m s=some q):0≤q∧q≤m*B:=by
 obtain⟨⟨l1,l2,e,_,_⟩,e2⟩:=(plan_first m s).2 q h
 have hm:qbn n R p m s∈ordL n R m s:=by rw[e];simp
 have h1:=qyA hB m s _ hm
 rw[e2]at h1
 exact h1
theorem qyC{n:Nat}{T p:Nat→Nat→Int}:List.replicate (2^n) [D.int .i64 0]=(qgW n T p (2^n-1)).map qoy:=by
 apply List.ext_getElem
 ·simp[qfe]
 ·intro i h1 h2
  have hi:i<2^n:=by simpa using h1
  rw[List.getElem_replicate,List.getElem_map,qjt hi]
  split
  ·have:i=2^n-1:=by omega
   subst this
   rw[ql3 (Nat.le_refl n)]
   rfl
  ·rfl
theorem qyD{n:Nat}{T p:Nat→Nat→Int}:((List.replicate (2^n) (none:Option Int)).set (2^n-1) (some 0)).map qiK=(qgW n T p (2^n-1)).map qiK:=by
 apply List.ext_getElem
 ·simp[qfe]
 ·intro i h1 h2
  have hi:i<2^n:=by simpa using h1
  rw[List.getElem_map,List.getElem_map,qjt hi,List.getElem_set]
  split
  ·rename_i e
   subst e
   rw[if_pos (Nat.le_refl _),ql3 (Nat.le_refl n)]
   rfl
  ·rename_i e
   rw[if_neg (by omega),List.getElem_replicate]
theorem qIa{n s:Nat}:cz n s≤n:=by
 induction n with
 |zero=>exact Nat.le_refl _
 |succ n ih=>simp only[cz];split<;>omega
def plA(n N:Nat)(rl pl:List (List Int))(g:FuncId)(a:Int)(L:List (Option Int))(z:List D):St:=⟨[(6,.int .i64 a),(5,.os 2 0 N),(4,.os 1 0 N),(0,.ptr [.int .i64 n,.sl (rl.map qaJ),.sl (pl.map qaJ)]),(1,.clo (.func g) [] z)],[(1,⟨1,true,L.map qoy⟩),(2,⟨1,true,L.map qiK⟩)],96,85⟩
def plB(n N:Nat)(rl pl:List (List Int))(g:FuncId)(k t:Nat)(L:List (Option Int))(z:List D):St:=⟨[(32,.int .i64 k),(31,.int .i64 n),(6,.int .i64 t),(5,.os 2 0 N),(4,.os 1 0 N),(0,.ptr [.int .i64 n,.sl (rl.map qaJ),.sl (pl.map qaJ)]),(1,.clo (.func g) [] z)],[(1,⟨1,true,L.map qoy⟩),(2,⟨1,true,L.map qiK⟩)],96,85⟩
theorem qDF(n:Nat)(hn:n≤8)(T p:Nat→Nat→Int)(pl:List (List Int))(g:FuncId)(ys:List D)(hst:qmg ys)(hpu:qbV ys=true)(hg:∀set k:Nat,set<2^n→k<n→Contract Tryz.prog g (.int .i64 set:: .int .i64 k::ys) (.ret (.int .i64 (p set k))))
  (hB:∀s k,k<n→nx T s k=true→0≤p s k∧p s k≤1000000000000000):
  Contract Tryz.prog 189 [qeS n (qaX n T (2^n)) pl,.clo (.func g) [] ys] (.ret (.tup [.sl ((qgW n T p 0).map qoy),.sl ((qgW n T p 0).map qiK)])):=by
 have hp8:=qy6 hn
 have h1:=qAH n hn (qaX n T (2^n)) pl
 have h2:=fun(set k:Nat) hs hk=>qtK n hn T pl set k hs hk
 have ht1:=qyC (n:=n) (T:=T) (p:=p)
 have ht2:=qyD (n:=n) (T:=T) (p:=p)
 unfold qeS at*
 obtain⟨N,hN⟩:∃N,N=2^n:=⟨_,rfl⟩
 simp only[←hN]at h1 h2 ht1 ht2 hg hp8 ⊢
 generalize qaX n T N=rl at*
 refine zT mix Tryz.func189 Tryz.ntmps189 Tryz.results189 rfl rfl rfl ?_;simp only[qab,Nat.reduceAdd]
 repeat'(first|refine zQ ?_|refine zF h1 ?_|fail)
 have eN:D.int .i64 ((N:Int)-1+1)=D.int .i64 (N:Int):=by rw[Int.sub_add_cancel]
 refine qfN (len:=N) (z:=.int .i64 0) eN eN (by kernel_rfl) rfl rfl (by kernel_rfl) (by omega) rfl ?_
 rw[show List.replicate N (qai (D.int .i64 0))=(qgW n T p (N-1)).map qoy from ht1]
 repeat'(first|refine zA ?_|refine zF h1 ?_|fail)
 refine qfN (len:=N) (z:=.bool false) eN eN (by kernel_rfl) rfl rfl (by kernel_rfl) (by omega) rfl ?_
 rw[show List.replicate N (qai (D.bool false))=(List.replicate N (none:Option Int)).map qiK by simp[qiK,qai]]
 repeat'(first|refine zQ ?_|refine zF h1 ?_|fail)
 refine qhs (i:=N-1) rfl rfl rfl (show((N:Int)-1)=((N-1:Nat):Int)by omega) rfl rfl ⟨by omega,by simp⟩ fun hlt=>?_
 repeat'(first|refine zA ?_|fail)
 refine qaF (f:=qiK) (l:=List.replicate N none) (a:=some 0) rfl rfl rfl (by simp;omega) rfl rfl rfl rfl (Nat.le_refl _) rfl ?_
 rw[show((List.replicate N (none:Option Int)).set (N-1) (some 0)).map qiK=(qgW n T p (N-1)).map qiK from ht2]
 repeat'(first|refine zQ ?_|refine zF h1 ?_|fail)
 rw[show((N:Int)-1-1)=((N-1-0:Nat):Int)-1 by omega]
 have hz:∀σ,qhb σ ys=ys:=fun σ=>qbE hpu
 refine qad (N-1) (fun i=>plA n N rl pl g (((N-1-i:Nat):Int)-1) (qgW n T p (N-1-i)) ys) (fun _=>True) ?_ trivial ?_
 ·exact qaa (nx:=96) (k:=0) (ns:=[]) (ks:=[6,5,4,0,1]) [(160,1),(288,2)] rfl (by simp) (Eq.trans (b:=plA n N rl pl g (((N-1-0:Nat):Int)-1) (qgW n T p (N-1-0)) (qhb [(160,1),(288,2)] ys)) (by kernel_rfl) (by rw[hz]))
 intro i hi _
 have htl:∀t,(qgW n T p t).length=N:=fun t=>by rw[hN];exact qfe
 by_cases hL:i<N-1
 rotate_left
 ·obtain rfl:i=N-1:=by omega
  rw[Nat.sub_self]
  have hl0:=htl 0
  unfold plA
  repeat'(first|refine zQ ?_|fail)
  all_goals try(exfalso;omega)
  exact qcF rfl rfl (qdY rfl hl0.symm) (qdY rfl hl0.symm)
 obtain⟨t,ht⟩:∃t,N-1-i=t+1:=⟨N-1-i-1,by omega⟩
 have ht':N-1-(i+1)=t:=by omega
 rw[ht,ht']
 rw[show((t+1:Nat):Int)-1=(t:Int)by omega]
 have htN:t<N-1:=by omega
 have hk0:qfY n T p t 0=qgW n T p (t+1):=qyt
 have hkn:qfY n T p t n=qgW n T p t:=qyu (by omega)
 rw[←hk0,←hkn]
 unfold plA
 repeat'(first|((with_reducible apply qao);rfl;rfl)|refine zS ?_|refine zA ?_|fail)
 all_goals try(exfalso;omega)
 refine qad n (fun k=>plB n N rl pl g k t (qfY n T p t k) ys) (fun _=>True) ?_ trivial ?_
 ·exact qaa (nx:=96) (k:=0) (ns:=[]) (ks:=[32,31,6,5,4,0,1]) [(1,1),(2,2)] rfl (by simp) (Eq.trans (b:=plB n N rl pl g 0 t (qfY n T p t 0) (qhb [(1,1),(2,2)] ys)) (by kernel_rfl) (by rw[hz]))
 intro k hk _
 have hkl:(qfY n T p t k).length=N:=by rw[hN];exact qgX
 unfold plB
 by_cases hK:k<n
 rotate_left
 ·obtain rfl:k=n:=by omega
  repeat'(first|refine zQ ?_|(refine zC ?_ ?_<;>first|intro h|simp)|fail)
  all_goals try exact absurd (show k<k by omega) hK
  refine⟨hL,trivial,?_⟩
  exact qaa (nx:=96) (k:=0) (ns:=[]) (ks:=[6,5,4,0,1]) [(1,1),(2,2)] rfl (by simp) (Eq.trans (b:=plA k N rl pl g ((t:Int)-1) (qfY k T p t k) (qhb [(1,1),(2,2)] ys)) (by kernel_rfl) (by rw[hz];rfl))
 have ht2N:t<2^n:=by omega
 have c2:=h2 t k (by omega) hK
 have hent:∀L:List (Option Int),(plB n N rl pl g (k+1) t L (qhb [(1,1),(2,2)] ys))=plB n N rl pl g (k+1) t L ys:=fun L=>by rw[hz]
 cases hx:nx T t k with
 |false=>
  rw[qqo ht2N (by unfold qhK;rw[if_neg (by rw[hx];simp)])]
  rw[hx]at c2
  repeat'(first|refine zQ ?_|refine zF c2 ?_|(refine zC ?_ ?_<;>first|intro h|simp)|fail)
  all_goals try exact absurd hK (by omega)
  exact⟨hK,trivial,qaa (nx:=96) (k:=0) (ns:=[]) (ks:=[32,31,6,5,4,0,1]) [(1,1),(2,2)] rfl (by simp) (Eq.trans (by kernel_rfl) (hent _))⟩
 |true=>
  rw[hx]at c2
  have hb:=nx_bit hx
  have hor:t|||2^k<N:=by rw[hN];exact qqj ht2N hK
  have f1:(qfY n T p t k)[t|||2^k]'(by omega)=planO n T p (cz n t-1) (t|||2^k):=qyv ht2N hK hb
  have f2:(qfY n T p t k)[t]'(by omega)=best ((List.range k).map (qhK n T p (cz n t-1) t)):=qtG ht2N
  have hpk:2^k<N:=by have:=Nat.pow_lt_pow_right (a:=2) (by omega) hK;omega
  cases hq:planO n T p (cz n t-1) (t|||2^k)with
  |none=>
   rw[hq]at f1
   rw[qqo ht2N (by unfold qhK;rw[if_pos hx,hq];rfl)]
   repeat'(first|((with_reducible apply qce);rfl;rfl;rfl;omega)|((with_reducible apply qlf);rfl;rfl;rfl;(exact⟨by omega,by omega⟩))|refine zS ?_|refine zA ?_|refine zF c2 ?_|(refine zI ?_;intro hlt)|(refine zC ?_ ?_<;>first|intro h|simp)|fail)
   all_goals try exact absurd hK (by omega)
   all_goals first
    |exact⟨hK,trivial,qaa (nx:=96) (k:=0) (ns:=[]) (ks:=[32,31,6,5,4,0,1]) [(1,1),(2,2)] rfl (by simp) (Eq.trans (by kernel_rfl) (hent _))⟩
    |(exfalso;simp[f1]at *;done)
    |trace_state
  |some q=>
   rw[hq]at f1
   have f3:((qfY n T p t k)[t|||2^k]'(by omega)).getD 0=q:=by rw[f1];rfl
   have hv:qhK n T p (cz n t-1) t k=some (p t k+q):=by unfold qhK;rw[if_pos hx,hq];rfl
   have hst1:=qqn (n:=n) (R:=T) (p:=p) (t:=t) (k:=k)
   rw[hv]at hst1
   have hgk:=hg t k (by omega) hK
   have hBk:=hB t k hK hx
   have hqb:=qyB hB hq
   have hcz:cz n t≤n:=qIa
   have hqb2:((cz n t-1:Nat):Int)*1000000000000000≤8*1000000000000000:=by omega
   cases hbst:best ((List.range k).map (qhK n T p (cz n t-1) t))with
   |none=>
    rw[hbst]at f2 hst1
    have hst2:qfY n T p t (k+1)=(qfY n T p t k).set t (some (p t k+q)):=hst1
    repeat'(first|((with_reducible apply qce);rfl;rfl;rfl;omega)|((with_reducible apply qlf);rfl;rfl;rfl;(exact⟨by omega,by omega⟩))|((with_reducible apply qdG);rfl;rfl;rfl;(exact hst);(exact hgk);rfl)|refine zS ?_|refine zA ?_|refine zF c2 ?_|(refine zI ?_;intro hlt)|(refine zC ?_ ?_<;>first|intro h|simp)|(refine zG ?_ ?_<;>first|intro h|simp)|fail)
    all_goals try exact absurd hK (by omega)
    all_goals try(exfalso;simp[f1]at *;done)
    all_goals try(exfalso;simp[f2]at *;done)
    ·refine qaF (f:=qoy) (l:=qfY n T p t k) (a:=some (p t k+((qfY n T p t k)[t|||2^k]'(by omega)).getD 0)) rfl rfl rfl (by omega) rfl rfl rfl rfl (Nat.le_refl _) rfl ?_
     repeat'(first|refine zA ?_|(refine zI ?_;intro hlt)|fail)
     refine qaF (f:=qiK) (l:=qfY n T p t k) (a:=some (p t k+((qfY n T p t k)[t|||2^k]'(by omega)).getD 0)) rfl rfl rfl (by omega) rfl rfl rfl rfl (Nat.le_refl _) rfl ?_
     repeat'(first|refine zQ ?_|fail)
     refine⟨hK,trivial,?_⟩
     rw[f3,←hst2]
     exact qaa (nx:=96) (k:=0) (ns:=[]) (ks:=[32,31,6,5,4,0,1]) [(1,1),(2,2)] rfl (by simp) (Eq.trans (by kernel_rfl) (hent _))
   |some c=>
    rw[hbst]at f2 hst1
    have f4:((qfY n T p t k)[t]'(by omega)).getD 0=c:=by rw[f2];rfl
    by_cases hlt2:p t k+q<c
    ·have hst2:qfY n T p t (k+1)=(qfY n T p t k).set t (some (p t k+q)):=by rw[hst1];simp only[upd,if_pos hlt2]
     repeat'(first|((with_reducible apply qce);rfl;rfl;rfl;omega)|((with_reducible apply qlf);rfl;rfl;rfl;(exact⟨by omega,by omega⟩))|((with_reducible apply qdG);rfl;rfl;rfl;(exact hst);(exact hgk);rfl)|refine zS ?_|refine zA ?_|refine zF c2 ?_|(refine zI ?_;intro hlt)|(refine zC ?_ ?_<;>first|intro h|simp)|(refine zG ?_ ?_<;>first|intro h|simp)|fail)
     all_goals try exact absurd hK (by omega)
     all_goals try(exfalso;simp[f1]at *;done)
     all_goals try(exfalso;simp[f2]at *;done)
     all_goals try(exfalso;simp[f1,f2]at *;omega)
     refine qaF (f:=qoy) (l:=qfY n T p t k) (a:=some (p t k+((qfY n T p t k)[t|||2^k]'(by omega)).getD 0)) rfl rfl rfl (by omega) rfl rfl rfl rfl (Nat.le_refl _) rfl ?_
     repeat'(first|refine zA ?_|(refine zI ?_;intro hlt)|fail)
     refine qaF (f:=qiK) (l:=qfY n T p t k) (a:=some (p t k+((qfY n T p t k)[t|||2^k]'(by omega)).getD 0)) rfl rfl rfl (by omega) rfl rfl rfl rfl (Nat.le_refl _) rfl ?_
     repeat'(first|refine zQ ?_|fail)
     refine⟨hK,trivial,?_⟩
     rw[f3,←hst2]
     exact qaa (nx:=96) (k:=0) (ns:=[]) (ks:=[32,31,6,5,4,0,1]) [(1,1),(2,2)] rfl (by simp) (Eq.trans (by kernel_rfl) (hent _))
    ·have hst2:qfY n T p t (k+1)=qfY n T p t k:=by
      rw[hst1]
      simp only[upd,if_neg hlt2]
      exact set_same (by omega) f2
     rw[hst2]
     repeat'(first|((with_reducible apply qce);rfl;rfl;rfl;omega)|((with_reducible apply qlf);rfl;rfl;rfl;(exact⟨by omega,by omega⟩))|((with_reducible apply qdG);rfl;rfl;rfl;(exact hst);(exact hgk);rfl)|refine zS ?_|refine zA ?_|refine zF c2 ?_|(refine zI ?_;intro hlt)|(refine zC ?_ ?_<;>first|intro h|simp)|(refine zG ?_ ?_<;>first|intro h|simp)|fail)
     all_goals try exact absurd hK (by omega)
     all_goals first
      |exact⟨hK,trivial,qaa (nx:=96) (k:=0) (ns:=[]) (ks:=[32,31,6,5,4,0,1]) [(1,1),(2,2)] rfl (by simp) (Eq.trans (by kernel_rfl) (hent _))⟩
      |(exfalso;simp[f1]at *;done)
      |(exfalso;simp[f2]at *;done)
      |(exfalso;omega)
      |(exfalso;simp[f1,f2]at *;omega)
      |trace_state
theorem qoz{n:Nat}{R p:Nat→Nat→Int}{c:Int}(h:planO n R p n 0=some c):∀i,i≤n→(qbn n R p n 0).length=n∧(∃ci,planO n R p (n-i) (setP ((qbn n R p n 0).take i))=some ci)∧qbn n R p (n-i) (setP ((qbn n R p n 0).take i))=(qbn n R p n 0).drop i∧setP ((qbn n R p n 0).take i)<2^n∧cz n (setP ((qbn n R p n 0).take i))=n-i
 |0,_=>by
  obtain⟨⟨l1,l2,e,_,_⟩,_⟩:=(plan_first n 0).2 c h
  have hm:qbn n R p n 0∈ordL n R n 0:=by rw[e];simp
  exact⟨(qDD hm).2,⟨c,h⟩,rfl,Nat.two_pow_pos n,ql2⟩
 |i+1,hi=>by
  obtain⟨hl,⟨ci,h1⟩,h2,h3,h4⟩:=qoz h i (by omega)
  obtain⟨m,hm⟩:∃m,n-i=m+1:=⟨n-i-1,by omega⟩
  have hm':n-(i+1)=m:=by omega
  rw[hm]at h1 h2 h4
  rw[hm']
  obtain⟨k,hk,hn,hv,hf,hp,hs⟩:=qqp h1
  rw[hp]at h2
  have hil:i<(qbn n R p n 0).length:=by omega
  rw[List.drop_eq_getElem_cons hil]at h2
  injection h2 with e1 e2
  have et:(qbn n R p n 0).take (i+1)=(qbn n R p n 0).take i++[k]:=by rw[List.take_succ_eq_append_getElem hil,←e1]
  rw[et,setP_snoc]
  obtain⟨cj,hcj⟩:=Option.isSome_iff_exists.1 hs
  refine⟨hl,⟨cj,hcj⟩,e2,qqj h3 hk,?_⟩
  have:=qvl (nx_bit hn) hk
  omega
theorem qyE{n:Nat}{R p:Nat→Nat→Int}{c:Int}(h:planO n R p n 0=some c){i m:Nat}(hm:n-i=m+1):∃ci,planO n R p (m+1) (setP ((qbn n R p n 0).take i))=some ci∧∃(hil:i<(qbn n R p n 0).length),(qbn n R p n 0)[i]<n∧nx R (setP ((qbn n R p n 0).take i)) (qbn n R p n 0)[i]=true∧qhK n R p m (setP ((qbn n R p n 0).take i)) (qbn n R p n 0)[i]=some ci∧∀j,j<(qbn n R p n 0)[i]→qhK n R p m (setP ((qbn n R p n 0).take i)) j≠some ci:=by
 obtain⟨hl,⟨ci,h1⟩,h2,h3,h4⟩:=qoz h i (by omega)
 rw[hm]at h1 h2 h4
 obtain⟨k,hk,hn,hv,hf,hp,hs⟩:=qqp h1
 rw[hp]at h2
 have hil:i<(qbn n R p n 0).length:=by omega
 rw[List.drop_eq_getElem_cons hil]at h2
 injection h2 with e1 e2
 refine⟨ci,h1,hil,?_⟩
 rw[←e1]
 exact⟨hk,hn,hv,hf⟩
def qf8(n:Nat)(T p:Nat→Nat→Int):List Nat×Int×Bool:=match planO n T p n 0 with
 |none=>([],0,false)
 |some c=>(qbn n T p n 0,c,true)
theorem qtL{P:Program}{env:Env}{hp:Hp}{nx n:Nat}{rv rv2 rv3:ResultVar}{d r d2 r2 d3 r3:D}(h:qb7 P ⟨env,hp,nx,n⟩ rv=some d)(h2:qb7 P ⟨env,hp,nx,n⟩ rv2=some d2)(h3:qb7 P ⟨env,hp,nx,n⟩ rv3=some d3)(p:pur (lkH hp) 64 d=some r)(p2:pur (lkH hp) 64 d2=some r2)(p3:pur (lkH hp) 64 d3=some r3):qg3 P [rv,rv2,rv3] (.ret (.tup [r,r2,r3])) .ret ⟨env,hp,nx,n⟩:=by
 refine⟨_,rfl,.inl ⟨[.pure,.pure,.pure],[d,d2,d3],[r,r2,r3],by simp[h,h2,h3],by simp[qbC],⟨?_,?_,?_,trivial⟩,rfl,fun hh=>by simp at hh⟩⟩
 ·show pur (qbd [] (lkH hp)) 64 d=some r
  rw[qbU];exact p
 ·show pur (qbd [] (lkH hp)) 64 d2=some r2
  rw[qbU];exact p2
 ·show pur (qbd [] (lkH hp)) 64 d3=some r3
  rw[qbU];exact p3
theorem qDG{P:Program}{env:Env}{hp:Hp}{nx n:Nat}{rv rv2 rv3:ResultVar}{b k len:Nat}{rows:List (List D)}{d2 d3:D}(h:qb7 P ⟨env,hp,nx,n⟩ rv=some (.os b 0 len))(hb:lkH hp b=some ⟨k,true,rows⟩)(hlen:rows.length=len)(h2:qb7 P ⟨env,hp,nx,n⟩ rv2=some d2)(h3:qb7 P ⟨env,hp,nx,n⟩ rv3=some d3)(s2:qa0 d2=true)(s3:qa0 d3=true):qg3 P [rv,rv2,rv3] (.ret (.tup [.fr k rows,d2,d3])) .ret ⟨env,hp,nx,n⟩:=by
 subst hlen
 exact⟨_,rfl,.inl ⟨[.blk b,.pure,.pure],[.os b 0 rows.length,d2,d3],[.fr k rows,d2,d3],by simp[h,h2,h3],by simp[qbC],⟨⟨⟨k,true,rows⟩,rows,rfl,hb,rfl,by simp⟩,qdl (m:=63) s2,qdl (m:=63) s3,trivial⟩,rfl,fun h=>by simp at h⟩⟩
theorem qDH{P:Program}{env:Env}{hp:Hp}{nx n:Nat}{rv rv2 rv3:ResultVar}{k:Nat}{d2 d3:D}(h:qb7 P ⟨env,hp,nx,n⟩ rv=some .nilsl)(h2:qb7 P ⟨env,hp,nx,n⟩ rv2=some d2)(h3:qb7 P ⟨env,hp,nx,n⟩ rv3=some d3)(s2:qa0 d2=true)(s3:qa0 d3=true):qg3 P [rv,rv2,rv3] (.ret (.tup [.fr k [],d2,d3])) .ret ⟨env,hp,nx,n⟩:=
 ⟨_,rfl,.inl ⟨[.nil,.pure,.pure],[.nilsl,d2,d3],[.fr k [],d2,d3],by simp[h,h2,h3],by simp[qbC],⟨⟨rfl,k,rfl⟩,qdl (m:=63) s2,qdl (m:=63) s3,trivial⟩,rfl,fun h=>by simp at h⟩⟩
mutual
theorem qqr{b:Nat}:∀{d:D},qdi d=true→qep b d=false
 |.agg cs,h=>by simp only[qep];exact qeu (by simpa[qdi]using h)
 |.tup cs,h=>by simp only[qep];exact qeu (by simpa[qdi]using h)
 |.clo f xs ys,h=>by
  simp only[qdi,Bool.and_eq_true]at h
  simp only[qep,qeu h.1,qeu h.2,Bool.or_self]
 |.iface t d,h=>by simp only[qep];exact qqr (by simpa[qdi]using h)
 |.os _ _ _,h=>by simp[qdi]at h
 |.op _ _ _,h=>by simp[qdi]at h
 |.om _,h=>by simp[qdi]at h
 |.undef,_|.skip,_|.int _ _,_|.bool _,_|.str _,_|.float _ _,_|.sl _,_|.ptr _,_|.nilsl,_|.nilptr,_|.nilfunc,_|.nilif,_|.fr _ _,_=>rfl
theorem qeu{b:Nat}:∀{ds:List D},qbV ds=true→qiV b ds=false
 |[],_=>rfl
 |d::ds,h=>by
  simp only[qbV,Bool.and_eq_true]at h
  simp only[qiV,qqr h.1,qeu h.2,Bool.or_self]
end
theorem qFB{b:Nat}{f:Fn}{ys:List D}(h:qbV ys=true):pd b (.clo f [] ys)=.clo f [] ys:=by
 unfold pd
 rw[if_neg]
 simp[qep,qiV,qeu h]
def beA(n:Nat)(rl pl:List (List Int))(g:FuncId)(L:List (Option Int))(i set:Nat)(path:List Nat)(z:List D):St:=⟨[(9,.os 1 0 i),(10,.int .i64 set),(8,.sl (L.map qiK)),(7,.sl (L.map qoy)),(0,.ptr [.int .i64 n,.sl (rl.map qaJ),.sl (pl.map qaJ)]),(1,.clo (.func g) [] z)],[(1,⟨1,true,path.map qcx⟩)],96,78⟩
def beB(n:Nat)(rl pl:List (List Int))(g:FuncId)(L:List (Option Int))(i set k:Nat)(path:List Nat)(z:List D):St:=⟨[(30,.int .i64 k),(29,.int .i64 n),(9,.os 1 0 i),(10,.int .i64 set),(8,.sl (L.map qiK)),(7,.sl (L.map qoy)),(0,.ptr [.int .i64 n,.sl (rl.map qaJ),.sl (pl.map qaJ)]),(1,.clo (.func g) [] z)],[(1,⟨1,true,path.map qcx⟩)],96,78⟩
theorem qBS(n:Nat)(hn:n≤8)(T p:Nat→Nat→Int)(pl:List (List Int))(g:FuncId)(ys:List D)(hst:qmg ys)(hpu:qbV ys=true)(hg:∀set k:Nat,set<2^n→k<n→Contract Tryz.prog g (.int .i64 set:: .int .i64 k::ys) (.ret (.int .i64 (p set k))))
  (hB:∀s k,k<n→nx T s k=true→0≤p s k∧p s k≤1000000000000000):
  Contract Tryz.prog 115 [qeS n (qaX n T (2^n)) pl,.clo (.func g) [] ys] (.ret (.tup [.fr 1 ((qf8 n T p).1.map qcx),.int .i64 (qf8 n T p).2.1,.bool (qf8 n T p).2.2])):=by
 have hp8:=qy6 hn
 have h1:=qAH n hn (qaX n T (2^n)) pl
 have h2:=fun(set k:Nat) hs hk=>qtK n hn T pl set k hs hk
 have h3:=qDF n hn T p pl g ys hst hpu hg hB
 have hz:∀σ,qhb σ ys=ys:=fun σ=>qbE hpu
 unfold qeS at*
 obtain⟨N,hN⟩:∃N,N=2^n:=⟨_,rfl⟩
 simp only[←hN]at h1 h2 h3 hg hp8 ⊢
 have htl:(qgW n T p 0).length=N:=by rw[hN];exact qfe
 have hget:∀s (hs:s<(qgW n T p 0).length),(qgW n T p 0)[s]=planO n T p (cz n s) s:=fun s hs=>by
  rw[qjt (by omega),if_pos (Nat.zero_le _)]
 have hg0:(qgW n T p 0)[0]'(by omega)=planO n T p n 0:=by rw[hget,ql2]
 cases hpn:planO n T p n 0 with
 |none=>
  rw[hpn]at hg0
  unfold qf8
  rw[hpn]
  refine zT mix Tryz.func115 Tryz.ntmps115 Tryz.results115 rfl rfl rfl ?_;simp only[qab,Nat.reduceAdd]
  repeat'(first|refine zQ ?_|fail)
  refine qn4 (args':=[.ptr [.int .i64 n,.sl ((qaX n T N).map qaJ),.sl (pl.map qaJ)],.clo (.func g) [] ys]) ?_ ?_ h3 rfl (zL rfl) rfl ?_
  ·simp[qbV,qdi,qac,lkE,hpu]
  ·have e:=hst (lkH []) 45
   simp only[List.map_cons,List.map_nil,qac,lkE,qbX,pur,Option.bind_some,Option.map_some,Nat.reduceEqDiff,if_true,if_false,e]
  repeat'(first|refine zQ ?_|(refine zI ?_;intro hlt)|(refine zC ?_ ?_<;>first|intro h|simp)|fail)
  all_goals first
   |exact qDH (k:=1) rfl rfl rfl rfl rfl
   |(exfalso;simp[hg0]at *;done)
   |trace_state
 |some c=>
  rw[hpn]at hg0
  have hb1:(qf8 n T p).1=qbn n T p n 0:=by unfold qf8;rw[hpn]
  have hb2:(qf8 n T p).2.1=c:=by unfold qf8;rw[hpn]
  have hb3:(qf8 n T p).2.2=true:=by unfold qf8;rw[hpn]
  rw[hb1,hb2,hb3]
  refine zT mix Tryz.func115 Tryz.ntmps115 Tryz.results115 rfl rfl rfl ?_;simp only[qab,Nat.reduceAdd]
  repeat'(first|refine zQ ?_|fail)
  refine qn4 (args':=[.ptr [.int .i64 n,.sl ((qaX n T N).map qaJ),.sl (pl.map qaJ)],.clo (.func g) [] ys]) ?_ ?_ h3 rfl (zL rfl) rfl ?_
  ·simp[qbV,qdi,qac,lkE,hpu]
  ·have e:=hst (lkH []) 45
   simp only[List.map_cons,List.map_nil,qac,lkE,qbX,pur,Option.bind_some,Option.map_some,Nat.reduceEqDiff,if_true,if_false,e]
  repeat'(first|refine zQ ?_|(refine zI ?_;intro hlt)|(refine zC ?_ ?_<;>first|intro h|simp)|fail)
  all_goals try(exfalso;simp[hg0]at *;done)
  refine qad n (fun i=>beA n (qaX n T N) pl g (qgW n T p 0) i (setP ((qbn n T p n 0).take i)) ((qbn n T p n 0).take i) ys) (fun _=>True) ?_ trivial ?_
  ·exact qaa (nx:=96) (k:=1) (ns:=[(9,1)]) (ks:=[10,8,7,0,1]) [] rfl (by simp;rfl) (Eq.trans (b:=beA n (qaX n T N) pl g (qgW n T p 0) 0 (setP ((qbn n T p n 0).take 0)) ((qbn n T p n 0).take 0) (qhb [] ys)) (by kernel_rfl) (by rw[hz]))
  intro i hi _
  obtain⟨hlen,-,-,hS,hcz⟩:=qoz hpn i hi
  by_cases hL:i<n
  rotate_left
  ·obtain rfl:i=n:=by omega
   have hSf:=qjs hS (by omega)
   rw[hSf,←hN]
   unfold beA
   have e9:(qbn i T p i 0).take i=qbn i T p i 0:=List.take_of_length_le (by omega)
   rw[e9]
   have hgc:((qgW i T p 0)[0]'(by omega)).getD 0=c:=by rw[hg0];rfl
   repeat'(first|refine zQ ?_|refine zF h1 ?_|(refine zI ?_;intro hlt)|(refine zC ?_ ?_<;>first|intro h|simp)|fail)
   all_goals first
    |exact qDG rfl rfl (by simpa using hlen) (congrArg (fun z=>some (D.int .i64 z)) hgc) rfl rfl rfl
    |(exfalso;omega)
    |trace_state
  obtain⟨m,hm⟩:∃m,n-i=m+1:=⟨n-i-1,by omega⟩
  obtain⟨ci,hci,hil,hK0,hn0,hv0,hmin⟩:=qyE hpn hm
  have hnN:setP ((qbn n T p n 0).take i)≠2^n-1:=fun e=>by
   have:=ql3 (n:=n) (m:=n) (Nat.le_refl n)
   rw[←e]at this
   omega
  rw[←hN]at hS hnN
  have hsn:setP ((qbn n T p n 0).take (i+1))=setP ((qbn n T p n 0).take i)|||2^(qbn n T p n 0)[i]:=by rw[List.take_succ_eq_append_getElem hil,setP_snoc]
  have hpt:(qbn n T p n 0).take (i+1)=(qbn n T p n 0).take i++[(qbn n T p n 0)[i]]:=List.take_succ_eq_append_getElem hil
  rw[hsn,hpt]
  generalize (qbn n T p n 0)[i]=K0 at*
  have htk:((qbn n T p n 0).take i).length=i:=by rw[List.length_take];omega
  generalize (qbn n T p n 0).take i=P0 at*
  generalize hSS:setP P0=S0 at*
  unfold beA
  repeat'(first|((with_reducible apply qao);rfl;rfl)|refine zS ?_|refine zA ?_|refine zF h1 ?_|(refine zI ?_;intro hlt)|(refine zC ?_ ?_<;>first|intro h|simp)|fail)
  all_goals try(exfalso;omega)
  have hent:∀k,(beB n (qaX n T N) pl g (qgW n T p 0) i S0 k P0 (qhb [(1,1)] ys))=beB n (qaX n T N) pl g (qgW n T p 0) i S0 k P0 ys:=fun k=>by rw[hz]
  have hent2:(beA n (qaX n T N) pl g (qgW n T p 0) (i+1) (S0|||2^K0) (P0++[K0]) (qhb [(1,1)] ys))=beA n (qaX n T N) pl g (qgW n T p 0) (i+1) (S0|||2^K0) (P0++[K0]) ys:=by rw[hz]
  have fS:(qgW n T p 0)[S0]'(by omega)=some ci:=by rw[hget,hcz,hm];exact hci
  have fSc:((qgW n T p 0)[S0]'(by omega)).getD 0=ci:=by rw[fS];rfl
  refine qad n (fun k=>beB n (qaX n T N) pl g (qgW n T p 0) i S0 k P0 ys) (fun k=>k≤K0) ?_ (Nat.zero_le _) ?_
  ·exact qaa (nx:=96) (k:=0) (ns:=[]) (ks:=[30,29,9,10,8,7,0,1]) [(1,1)] rfl (by simp) (Eq.trans (by kernel_rfl) (hent 0))
  intro k hk hkK
  have hK:k<n:=by omega
  have c2:=h2 S0 k hS hK
  have hpk:2^k<N:=by have:=Nat.pow_lt_pow_right (a:=2) (by omega) hK;omega
  unfold beB
  cases hx:nx T S0 k with
  |false=>
   rw[hx]at c2
   have hne:k≠K0:=fun e=>by rw[e,hn0]at hx;cases hx
   repeat'(first|refine zQ ?_|refine zF c2 ?_|(refine zC ?_ ?_<;>first|intro h|simp)|fail)
   all_goals try(exfalso;omega)
   exact⟨hK,by omega,qaa (nx:=96) (k:=0) (ns:=[]) (ks:=[30,29,9,10,8,7,0,1]) [(1,1)] rfl (by simp) (Eq.trans (by kernel_rfl) (hent (k+1)))⟩
  |true=>
   rw[hx]at c2
   have hb:=nx_bit hx
   have hor:S0|||2^k<N:=by rw[hN];exact qqj (by omega) hK
   have hczk:cz n (S0|||2^k)=m:=by have:=qvl hb hK;omega
   have f1:(qgW n T p 0)[S0|||2^k]'(by omega)=planO n T p m (S0|||2^k):=by rw[hget,hczk]
   have hgk:=hg S0 k hS hK
   have hBk:=hB S0 k hK hx
   cases hq:planO n T p m (S0|||2^k)with
   |none=>
    rw[hq]at f1
    have hne:k≠K0:=fun e=>by
     rw[←e]at hv0
     unfold qhK at hv0
     rw[if_pos hx,hq]at hv0
     cases hv0
    repeat'(first|((with_reducible apply qce);rfl;rfl;rfl;omega)|((with_reducible apply qlf);rfl;rfl;rfl;(exact⟨by omega,by omega⟩))|((with_reducible apply qdG);rfl;rfl;rfl;(exact hst);(exact hgk);rfl)|refine zS ?_|refine zA ?_|refine zF c2 ?_|(refine zI ?_;intro hlt)|(refine zC ?_ ?_<;>first|intro h|simp)|(refine zG ?_ ?_<;>first|intro h|simp)|((with_reducible apply qaz);rfl;rfl)|fail)
    all_goals first
     |(exfalso;omega)
     |(exfalso;simp[f1]at *;done)
     |exact⟨hK,by omega,qaa (nx:=96) (k:=0) (ns:=[]) (ks:=[30,29,9,10,8,7,0,1]) [(1,1)] rfl (by simp) (Eq.trans (by kernel_rfl) (hent (k+1)))⟩
     |trace_state
   |some q=>
    rw[hq]at f1
    have f3:((qgW n T p 0)[S0|||2^k]'(by omega)).getD 0=q:=by rw[f1];rfl
    have hv:qhK n T p m S0 k=some (p S0 k+q):=by unfold qhK;rw[if_pos hx,hq];rfl
    have hqb:=qyB hB hq
    have hqb2:((m:Nat):Int)*1000000000000000≤8*1000000000000000:=by omega
    by_cases hkk:k=K0
    ·subst hkk
     rw[hv]at hv0
     injection hv0 with hv0
     repeat'(first|((with_reducible apply qce);rfl;rfl;rfl;omega)|((with_reducible apply qlf);rfl;rfl;rfl;(exact⟨by omega,by omega⟩))|((with_reducible apply qdG);rfl;rfl;rfl;(exact hst);(exact hgk);rfl)|refine zS ?_|refine zA ?_|refine zF c2 ?_|(refine zI ?_;intro hlt)|(refine zC ?_ ?_<;>first|intro h|simp)|(refine zG ?_ ?_<;>first|intro h|simp)|fail)
     all_goals try(exfalso;omega)
     all_goals try(exfalso;simp[f1]at *;done)
     refine qaH (f:=qcx) (a:=k) (l:=P0) qlD rfl rfl rfl htk rfl rfl (by kernel_rfl) (by kernel_rfl) (by omega) rfl ?_
     simp only[qfZ,List.map_cons,List.map_nil,qFB hpu]
     repeat'(first|((with_reducible apply qce);rfl;rfl;rfl;omega)|((with_reducible apply qlf);rfl;rfl;rfl;(exact⟨by omega,by omega⟩))|refine zS ?_|refine zA ?_|fail)
     exact⟨hL,trivial,qaa (nx:=96) (k:=0) (ns:=[]) (ks:=[9,10,8,7,0,1]) [(1,1)] rfl (by simp) (Eq.trans (by kernel_rfl) hent2)⟩
    ·have hne:p S0 k+q≠ci:=fun e=>hmin k (by omega) (by rw[hv,e])
     repeat'(first|((with_reducible apply qce);rfl;rfl;rfl;omega)|((with_reducible apply qlf);rfl;rfl;rfl;(exact⟨by omega,by omega⟩))|((with_reducible apply qdG);rfl;rfl;rfl;(exact hst);(exact hgk);rfl)|refine zS ?_|refine zA ?_|refine zF c2 ?_|(refine zI ?_;intro hlt)|(refine zC ?_ ?_<;>first|intro h|simp)|(refine zG ?_ ?_<;>first|intro h|simp)|fail)
     all_goals first
      |(exfalso;omega)
      |(exfalso;simp[f1]at *;done)
      |exact⟨hK,by omega,qaa (nx:=96) (k:=0) (ns:=[]) (ks:=[30,29,9,10,8,7,0,1]) [(1,1)] rfl (by simp) (Eq.trans (by kernel_rfl) (hent (k+1)))⟩
      |trace_state
def qyP(s:Site):Bool:=decide (s.bed.levels.length≤16)&&(decide (s.ground.soils.length≤4)&&(decide (s.ground.borings.length≤5)&&(decide (s.zones.length≤12)&&(decide (s.quays.length≤7)&&(decide (s.gauges.length≤4)&&decide (s.dreds.length≤8))))))
def qmv(s:Site):Bool:=qyP s&&(s.ground.borings.all (fun b=>decide (b.layers.length≤5))&&(s.zones.all (fun z=>decide (z.name.size≤50∧z.corners.length≤12))&&(s.gauges.all (fun g=>decide (g.marks.length≤12))&&s.dreds.all (fun d=>decide (d.name.size≤50∧d.outs.length≤10)))))
theorem qiO{α:Type}{p:α→Bool}{l:List α}(h:∀j (hj:j<l.length),p l[j]=true):l.all p=true:=by
 rw[List.all_eq_true]
 intro x hx
 obtain⟨j,hj,rfl⟩:=List.getElem_of_mem hx
 exact h j hj
theorem ql8{α:Type}{p:α→Bool}{l:List α}{j:Nat}(hj:j<l.length)(h:p l[j]=false):l.all p=false:=by
 rw[List.all_eq_false]
 exact⟨l[j],List.getElem_mem hj,by rw[h];simp⟩
theorem qqu{α:Type}{p:α→Bool}{l:List α}{i:Nat}(hL:i<l.length)(hC:∀j (hj:j<i) (hj':j<l.length),p l[j]=true)(h:p l[i]=true):∀j (hj:j<i+1) (hj':j<l.length),p l[j]=true:=fun j hj hj'=>by
 rcases Nat.lt_succ_iff_lt_or_eq.1 hj with h'|rfl
 ·exact hC j h' hj'
 ·exact h
theorem qkv(s:Site)(hw:Wide s):Contract Tryz.prog 20 [.agg (encSite s)] (.ret (.bool (qmv s))):=by
 obtain⟨w1,w2,w3,w4,w5,w6,w7,w8,w9,w10,w11⟩:=hw
 by_cases hh:qyP s=true
 rotate_left
 ·have e:qmv s=false:=by unfold qmv;rw[Bool.not_eq_true]at hh;rw[hh];rfl
  rw[e]
  refine zT mix Tryz.func20 Tryz.ntmps20 Tryz.results20 rfl rfl rfl ?_;simp only[qab,Nat.reduceAdd]
  repeat'(first|(with_reducible rfl)|refine zQ ?_|(refine zC ?_ ?_<;>first|intro h|simp)|(refine zG ?_ ?_<;>first|intro h|simp)|refine zE ?_|fail)
  all_goals first
   |rfl
   |(exfalso;apply hh;simp only[qyP,Bool.and_eq_true,decide_eq_true_eq];omega)
   |trace_state
 have hh2:=hh
 simp only[qyP,Bool.and_eq_true,decide_eq_true_eq]at hh2
 unfold qmv
 rw[hh,Bool.true_and]
 refine zT mix Tryz.func20 Tryz.ntmps20 Tryz.results20 rfl rfl rfl ?_;simp only[qab,Nat.reduceAdd]
 repeat'(first|refine zQ ?_|(refine zC ?_ ?_<;>first|intro h|simp)|(refine zG ?_ ?_<;>first|intro h|simp)|fail)
 all_goals try(exfalso;omega)
 refine qad s.ground.borings.length (fun i=>⟨[(3,.int .i64 i),(1,.op 0 0 0)],[(0,⟨12,true,[encSite s]⟩)],32,132⟩) (fun i=>∀j (hj:j<i) (hj':j<s.ground.borings.length),(fun b:Boring=>decide (b.layers.length≤5)) s.ground.borings[j]=true) ?_ (fun j hj=>absurd hj (by omega)) ?_
 ·exact qaa (nx:=32) (k:=0) (ns:=[]) (ks:=[3,1]) [(0,0)] rfl (by simp) (by kernel_rfl)
 intro i hi hC
 by_cases hL0:i<s.ground.borings.length
 ·have hw0:=w4 _ (List.getElem_mem hL0)
  by_cases hc:s.ground.borings[i].layers.length≤5
  ·repeat'(first|refine zQ ?_|(refine zI ?_;intro hlt)|(refine zC ?_ ?_<;>first|intro h|simp)|fail)
   all_goals first
    |exact absurd hL0 (by omega)
    |(exfalso;omega)
    |(refine⟨hL0,qqu (p:=fun b:Boring=>decide (b.layers.length≤5)) hL0 hC (decide_eq_true hc),?_⟩;exact qaa (nx:=32) (k:=0) (ns:=[]) (ks:=[3,1]) [(0,0)] rfl (by simp) (by kernel_rfl))
    |trace_state
  ·have hno:s.ground.borings.all (fun b:Boring=>decide (b.layers.length≤5))=false:=ql8 hL0 (decide_eq_false hc)
   rw[hno]
   try simp only[Bool.false_and,Bool.and_false]
   repeat'(first|(with_reducible rfl)|refine zQ ?_|(refine zI ?_;intro hlt)|(refine zC ?_ ?_<;>first|intro h|simp)|refine zE ?_|fail)
   all_goals first
    |exact absurd hL0 (by omega)
    |rfl
    |(exfalso;omega)
    |trace_state
 have hyes0:s.ground.borings.all (fun b:Boring=>decide (b.layers.length≤5))=true:=qiO fun j hj=>hC j (by omega) hj
 rw[hyes0]
 try simp only[Bool.true_and]
 clear hC
 repeat'(first|refine zQ ?_|(refine zI ?_;intro hlt)|(refine zC ?_ ?_<;>first|intro h|simp)|fail)
 all_goals try exact absurd (show i<s.ground.borings.length by omega) hL0
 refine qad s.zones.length (fun i=>⟨[(4,.int .i64 i),(1,.op 0 0 0)],[(0,⟨12,true,[encSite s]⟩)],32,132⟩) (fun i=>∀j (hj:j<i) (hj':j<s.zones.length),(fun z:qe7=>decide (z.name.size≤50∧z.corners.length≤12)) s.zones[j]=true) ?_ (fun j hj=>absurd hj (by omega)) ?_
 ·exact qaa (nx:=32) (k:=0) (ns:=[]) (ks:=[4,1]) [(0,0)] rfl (by simp) (by kernel_rfl)
 intro i hi hC
 by_cases hL1:i<s.zones.length
 ·have hw1:=w6 _ (List.getElem_mem hL1)
  by_cases hc:s.zones[i].name.size≤50∧s.zones[i].corners.length≤12
  ·repeat'(first|refine zQ ?_|(refine zI ?_;intro hlt)|(refine zC ?_ ?_<;>first|intro h|simp)|(refine zG ?_ ?_<;>first|intro h|simp)|fail)
   all_goals first
    |exact absurd hL1 (by omega)
    |(exfalso;omega)
    |(refine⟨hL1,qqu (p:=fun z:qe7=>decide (z.name.size≤50∧z.corners.length≤12)) hL1 hC (decide_eq_true hc),?_⟩;exact qaa (nx:=32) (k:=0) (ns:=[]) (ks:=[4,1]) [(0,0)] rfl (by simp) (by kernel_rfl))
    |trace_state
  ·have hno:s.zones.all (fun z:qe7=>decide (z.name.size≤50∧z.corners.length≤12))=false:=ql8 hL1 (decide_eq_false hc)
   rw[hno]
   try simp only[Bool.false_and,Bool.and_false]
   repeat'(first|(with_reducible rfl)|refine zQ ?_|(refine zI ?_;intro hlt)|(refine zC ?_ ?_<;>first|intro h|simp)|(refine zG ?_ ?_<;>first|intro h|simp)|refine zE ?_|fail)
   all_goals first
    |exact absurd hL1 (by omega)
    |rfl
    |(exfalso;omega)
    |trace_state
 have hyes1:s.zones.all (fun z:qe7=>decide (z.name.size≤50∧z.corners.length≤12))=true:=qiO fun j hj=>hC j (by omega) hj
 rw[hyes1]
 try simp only[Bool.true_and]
 clear hC
 repeat'(first|refine zQ ?_|(refine zI ?_;intro hlt)|(refine zC ?_ ?_<;>first|intro h|simp)|(refine zG ?_ ?_<;>first|intro h|simp)|fail)
 all_goals try exact absurd (show i<s.zones.length by omega) hL1
 refine qad s.gauges.length (fun i=>⟨[(5,.int .i64 i),(1,.op 0 0 0)],[(0,⟨12,true,[encSite s]⟩)],32,132⟩) (fun i=>∀j (hj:j<i) (hj':j<s.gauges.length),(fun g:Gauge=>decide (g.marks.length≤12)) s.gauges[j]=true) ?_ (fun j hj=>absurd hj (by omega)) ?_
 ·exact qaa (nx:=32) (k:=0) (ns:=[]) (ks:=[5,1]) [(0,0)] rfl (by simp) (by kernel_rfl)
 intro i hi hC
 by_cases hL2:i<s.gauges.length
 ·have hw2:=w9 _ (List.getElem_mem hL2)
  by_cases hc:s.gauges[i].marks.length≤12
  ·repeat'(first|refine zQ ?_|(refine zI ?_;intro hlt)|(refine zC ?_ ?_<;>first|intro h|simp)|fail)
   all_goals first
    |exact absurd hL2 (by omega)
    |(exfalso;omega)
    |(refine⟨hL2,qqu (p:=fun g:Gauge=>decide (g.marks.length≤12)) hL2 hC (decide_eq_true hc),?_⟩;exact qaa (nx:=32) (k:=0) (ns:=[]) (ks:=[5,1]) [(0,0)] rfl (by simp) (by kernel_rfl))
    |trace_state
  ·have hno:s.gauges.all (fun g:Gauge=>decide (g.marks.length≤12))=false:=ql8 hL2 (decide_eq_false hc)
   rw[hno]
   try simp only[Bool.false_and,Bool.and_false]
   repeat'(first|(with_reducible rfl)|refine zQ ?_|(refine zI ?_;intro hlt)|(refine zC ?_ ?_<;>first|intro h|simp)|refine zE ?_|fail)
   all_goals first
    |exact absurd hL2 (by omega)
    |rfl
    |(exfalso;omega)
    |trace_state
 have hyes2:s.gauges.all (fun g:Gauge=>decide (g.marks.length≤12))=true:=qiO fun j hj=>hC j (by omega) hj
 rw[hyes2]
 try simp only[Bool.true_and]
 clear hC
 repeat'(first|refine zQ ?_|(refine zI ?_;intro hlt)|(refine zC ?_ ?_<;>first|intro h|simp)|fail)
 all_goals try exact absurd (show i<s.gauges.length by omega) hL2
 refine qad s.dreds.length (fun i=>⟨[(6,.int .i64 i),(1,.op 0 0 0)],[(0,⟨12,true,[encSite s]⟩)],32,132⟩) (fun i=>∀j (hj:j<i) (hj':j<s.dreds.length),(fun d:Dred=>decide (d.name.size≤50∧d.outs.length≤10)) s.dreds[j]=true) ?_ (fun j hj=>absurd hj (by omega)) ?_
 ·exact qaa (nx:=32) (k:=0) (ns:=[]) (ks:=[6,1]) [(0,0)] rfl (by simp) (by kernel_rfl)
 intro i hi hC
 by_cases hL3:i<s.dreds.length
 ·have hw3:=w11 _ (List.getElem_mem hL3)
  by_cases hc:s.dreds[i].name.size≤50∧s.dreds[i].outs.length≤10
  ·repeat'(first|refine zQ ?_|(refine zI ?_;intro hlt)|(refine zC ?_ ?_<;>first|intro h|simp)|(refine zG ?_ ?_<;>first|intro h|simp)|fail)
   all_goals first
    |exact absurd hL3 (by omega)
    |(exfalso;omega)
    |(refine⟨hL3,qqu (p:=fun d:Dred=>decide (d.name.size≤50∧d.outs.length≤10)) hL3 hC (decide_eq_true hc),?_⟩;exact qaa (nx:=32) (k:=0) (ns:=[]) (ks:=[6,1]) [(0,0)] rfl (by simp) (by kernel_rfl))
    |trace_state
  ·have hno:s.dreds.all (fun d:Dred=>decide (d.name.size≤50∧d.outs.length≤10))=false:=ql8 hL3 (decide_eq_false hc)
   rw[hno]
   try simp only[Bool.false_and,Bool.and_false]
   repeat'(first|(with_reducible rfl)|refine zQ ?_|(refine zI ?_;intro hlt)|(refine zC ?_ ?_<;>first|intro h|simp)|(refine zG ?_ ?_<;>first|intro h|simp)|refine zE ?_|fail)
   all_goals first
    |exact absurd hL3 (by omega)
    |rfl
    |(exfalso;omega)
    |trace_state
 have hyes3:s.dreds.all (fun d:Dred=>decide (d.name.size≤50∧d.outs.length≤10))=true:=qiO fun j hj=>hC j (by omega) hj
 rw[hyes3]
 try simp only[Bool.true_and]
 clear hC
 repeat'(first|(with_reducible rfl)|refine zQ ?_|(refine zI ?_;intro hlt)|(refine zC ?_ ?_<;>first|intro h|simp)|(refine zG ?_ ?_<;>first|intro h|simp)|refine zE ?_|fail)
 all_goals try exact absurd (show i<s.dreds.length by omega) hL3
 all_goals rfl
def qvG(l:List Cut)(most:Nat):Bool:=decide (l.length≤most)&&l.all fun c=>decide (c.name.size≤50∧c.dredger.size≤50)
theorem qyQ{l:List Cut}{most:Nat}(h:qvG l most=true):l.length≤most:=by
 simp only[qvG,Bool.and_eq_true,decide_eq_true_eq]at h
 exact h.1
theorem qgZ{s:Site}(hw:Wide s)(h:qmv s=true):Sized s∧s.bed.levels.length≤16∧s.dreds.length≤8∧s.zones.length≤12∧s.quays.length≤7∧s.ground.soils.length≤4:=by
 unfold qmv at h
 rw[Bool.and_eq_true]at h
 have h1:=h.1
 simp only[qyP,Bool.and_eq_true,decide_eq_true_eq]at h1
 exact⟨⟨by omega,by omega,by omega,hw.zo,hw.qu,hw.ga,hw.ma,hw.dr,hw.ou⟩,by omega,by omega,by omega,by omega,by omega⟩
theorem qAN(l:List Cut)(hl:l.length≤9223372036854775807)(most:Nat)(hm:most≤1000):Contract Tryz.prog 21 [.sl (l.map encCut),.int .i64 most] (.ret (.bool (qvG l most))):=by
 unfold qvG
 by_cases h0:l.length≤most
 rotate_left
 ·rw[decide_eq_false h0,Bool.false_and]
  refine zT mix Tryz.func21 Tryz.ntmps21 Tryz.results21 rfl rfl rfl ?_;simp only[qab,Nat.reduceAdd]
  repeat'(first|refine zQ ?_|fail)
  refine qad 0 (fun i=>⟨[(5,.int .i64 i),(0,.sl (l.map encCut)),(1,.int .i64 most)],[],32,38⟩) (fun i=>True) ?_ trivial ?_
  ·exact qaa (nx:=32) (k:=0) (ns:=[]) (ks:=[5,0,1]) [] rfl (by simp) (by kernel_rfl)
  intro i hi _
  obtain rfl:i=0:=by omega
  repeat'(first|(with_reducible rfl)|refine zQ ?_|(refine zI ?_;intro hlt)|(refine zC ?_ ?_<;>first|intro h|simp)|(refine zG ?_ ?_<;>first|intro h|simp)|refine zE ?_|fail)
  all_goals first
   |(exfalso;omega)
   |(rw[decide_eq_false (by omega)];done)
   |rfl
   |trace_state
 rw[decide_eq_true h0,Bool.true_and]
 refine zT mix Tryz.func21 Tryz.ntmps21 Tryz.results21 rfl rfl rfl ?_;simp only[qab,Nat.reduceAdd]
 repeat'(first|refine zQ ?_|fail)
 refine qad l.length (fun i=>⟨[(5,.int .i64 i),(0,.sl (l.map encCut)),(1,.int .i64 most)],[],32,38⟩) (fun i=>∀j (hj:j<i) (hj':j<l.length),(fun c:Cut=>decide (c.name.size≤50∧c.dredger.size≤50)) l[j]=true) ?_ (fun j hj=>absurd hj (by omega)) ?_
 ·exact qaa (nx:=32) (k:=0) (ns:=[]) (ks:=[5,0,1]) [] rfl (by simp) (by kernel_rfl)
 intro i hi hC
 by_cases hL:i<l.length
 ·by_cases hc:l[i].name.size≤50∧l[i].dredger.size≤50
  ·repeat'(first|refine zQ ?_|(refine zI ?_;intro hlt)|(refine zC ?_ ?_<;>first|intro h|simp)|(refine zG ?_ ?_<;>first|intro h|simp)|fail)
   all_goals first
    |exact absurd hL (by omega)
    |(exfalso;omega)
    |(refine⟨hL,qqu (p:=fun c:Cut=>decide (c.name.size≤50∧c.dredger.size≤50)) hL hC (decide_eq_true hc),?_⟩;exact qaa (nx:=32) (k:=0) (ns:=[]) (ks:=[5,0,1]) [] rfl (by simp) (by kernel_rfl))
    |trace_state
  ·have hno:l.all (fun c:Cut=>decide (c.name.size≤50∧c.dredger.size≤50))=false:=ql8 hL (decide_eq_false hc)
   rw[hno]
   repeat'(first|(with_reducible rfl)|refine zQ ?_|(refine zI ?_;intro hlt)|(refine zC ?_ ?_<;>first|intro h|simp)|(refine zG ?_ ?_<;>first|intro h|simp)|refine zE ?_|fail)
   all_goals first
    |exact absurd hL (by omega)
    |rfl
    |(exfalso;omega)
    |trace_state
 have hyes:l.all (fun c:Cut=>decide (c.name.size≤50∧c.dredger.size≤50))=true:=qiO fun j hj=>hC j (by omega) hj
 rw[hyes]
 clear hC
 repeat'(first|refine zQ ?_|(refine zI ?_;intro hlt)|(refine zC ?_ ?_<;>first|intro h|simp)|(refine zG ?_ ?_<;>first|intro h|simp)|refine zE ?_|fail)
 all_goals first
  |(exfalso;omega)
  |(rw[decide_eq_true (by omega)];done)
  |rfl
  |trace_state
end Go.Pv.Soil

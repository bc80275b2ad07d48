import Derived.Test.YtfklpkgdobdbpaaGreatCBR
/- Part of the proofs over YtfklpkgdobdbpaaGreat: S12, N46, N49, N50. -/
set_option linter.unusedVariables false
set_option linter.unusedSimpArgs false
set_option linter.unnecessarySimpa false
open Go Go.Proofs Go.Pv
set_option maxHeartbeats 8000000
set_option maxRecDepth 100000
set_option linter.unusedSimpArgs false
set_option linter.unusedVariables false
namespace Go.Pv.Soil
def qKe(s:Site)(nm:ByteArray):Int:=qci (fun z=>decide (z.name=nm)) s.zones
def qKg(s:Site)(z:qfD):List Nat:=(List.range s.bed.levels.length).filter fun i=>qfy s.bed i z
def qKh(s:Site)(nm:ByteArray):List Nat×Int:=if qfn s≠0 then([],qfn s)else match s.zones[(qKe s nm).toNat]? with
 |some z=>if 0≤qKe s nm then(qKg s z,0)else([],6)
 |none=>([],6)
theorem qKi(z:qfD)(nm:ByteArray):Contract Tryz.prog 144 [.agg (qbv z),.ptr [.str nm]] (.ret (.bool (decide (z.name=nm)))):=by
 refine zT mix Tryz.func144 Tryz.ntmps144 Tryz.results144 rfl rfl rfl ?_;simp only[qac,Nat.reduceAdd]
 repeat'(first|(with_reducible rfl)|refine zQ ?_|((with_reducible apply qaG);rfl;rfl)|refine zE ?_|fail)
theorem qKk(s:Site)(hz:Sized s)(nm:ByteArray):Contract Tryz.prog 65 [.agg (encSite s),.str nm] (.ret (.tup [.sl ((qKh s nm).1.map qcX),.int .i64 (qKh s nm).2])):=by
 have h1:=qhh s hz
 unfold qKh
 by_cases h0:qfn s=0
 rotate_left
 ·rw[if_pos h0]
  generalize qfn s=q at*
  refine zT mix Tryz.func65 Tryz.ntmps65 Tryz.results65 rfl rfl rfl ?_;simp only[qac,Nat.reduceAdd]
  repeat'(first|refine zQ ?_|refine zF h1 ?_|(refine zC ?_ ?_<;>first|intro h|simp)|fail)
  all_goals first
   |exact qcs rfl rfl rfl rfl
   |(exfalso;omega)
   |trace_state
 rw[if_neg (not_not_intro h0)]
 rw[h0]at h1
 have hs:=qzv h0
 have hzn:=hs.zone
 have hsm:=hs.bed.small
 have h2:Contract Tryz.prog 143 [.sl (s.zones.map qbv),.clo (.func 144) [] [.ptr [.str nm]]] (.ret (.int .i64 (qKe s nm))):=qx2 s.zones (by omega) 144 [.ptr [.str nm]] (fun _ _=>rfl) rfl (fun z=>decide (z.name=nm)) fun z _=>qKi z nm
 by_cases hk:0≤qKe s nm
 rotate_left
 ·have e:(match s.zones[(qKe s nm).toNat]? with|some z=>if 0≤qKe s nm then(qKg s z,0)else([],6)|none=>(([]:List Nat),(6:Int)))=([],6):=by
   split
   ·rw[if_neg hk]
   ·rfl
  rw[e]
  generalize qKe s nm=q at*
  refine zT mix Tryz.func65 Tryz.ntmps65 Tryz.results65 rfl rfl rfl ?_;simp only[qac,Nat.reduceAdd]
  repeat'(first|refine zQ ?_|refine zF h1 ?_|refine zF h2 ?_|(refine zC ?_ ?_<;>first|intro h|simp)|fail)
  all_goals first
   |exact qcs rfl rfl rfl rfl
   |(exfalso;omega)
   |trace_state
 have hkl:(qKe s nm).toNat<s.zones.length:=qnM hk
 obtain⟨k,ek⟩:=Int.eq_ofNat_of_zero_le hk
 have hkk:(qKe s nm).toNat=k:=by omega
 rw[List.getElem?_eq_getElem hkl]
 simp only[if_pos hk]
 rw[ek]at h2
 simp only[hkk]at hkl ⊢
 unfold qKg
 generalize hP:(fun i=>qfy s.bed i s.zones[k])=pz
 refine zT mix Tryz.func65 Tryz.ntmps65 Tryz.results65 rfl rfl rfl ?_;simp only[qac,Nat.reduceAdd]
 repeat'(first|refine zQ ?_|refine zF h1 ?_|refine zF h2 ?_|fail)
 all_goals try(exfalso;omega)
 refine qaf s.bed.levels.length (fun i=>⟨[(8,.os 1 0 ((List.range i).filter pz).length),(25,.int .i64 i),(24,.int .i64 s.bed.levels.length),(7,.int .i64 (k:Int)),(2,.op 0 0 0)],[(1,⟨1,true,((List.range i).filter pz).map qcX⟩),(0,⟨12,true,[encSite s]⟩)],64,43⟩) (fun i=>True) ?_ trivial ?_
 ·exact qaa (nx:=64) (k:=1) (ns:=[(8,1)]) (ks:=[25,24,7,2]) [(0,0)] rfl (by simp;rfl) (by kernel_rfl)
 intro i hi _
 have hfl:=qBv pz i
 by_cases hL:i<s.bed.levels.length
 ·have h3:=qv5 s.bed hs.bed i hL s.zones[k] (hzn.2 k hkl)
  have hp:qfy s.bed i s.zones[k]=pz i:=by rw[←hP]
  rw[hp]at h3
  repeat'(first|refine zQ ?_|refine zF h3 ?_|(refine zI ?_;intro hlt)|(refine zC ?_ ?_<;>first|intro h|simp)|fail)
  all_goals try exact absurd hL (by omega)
  ·refine qaE (f:=qcX) (a:=i) (l:=(List.range i).filter pz) qp5 rfl rfl rfl rfl rfl rfl (by kernel_rfl) (by kernel_rfl) (by omega) rfl ?_
   repeat'(first|refine zQ ?_|fail)
   refine⟨hL,trivial,?_⟩
   have hp:pz i=true:=by assumption
   have el:((List.range i).filter pz).length+1=((List.range (i+1)).filter pz).length:=by rw[←qwr hp];simp
   rw[qwr hp,el]
   exact qaa (nx:=64) (k:=1) (ns:=[]) (ks:=[8,25,24,7,2]) [(1,1),(0,0)] rfl (by simp) (by kernel_rfl)
  ·refine⟨hL,trivial,?_⟩
   rw[qDp (by assumption)]
   exact qaa (nx:=64) (k:=1) (ns:=[]) (ks:=[8,25,24,7,2]) [(1,1),(0,0)] rfl (by simp) (by kernel_rfl)
 ·obtain rfl:i=s.bed.levels.length:=by omega
  repeat'(first|refine zQ ?_|(refine zI ?_;intro hlt)|(refine zC ?_ ?_<;>first|intro h|simp)|fail)
  all_goals first
   |exact absurd (show s.bed.levels.length<s.bed.levels.length by omega) hL
   |exact qcs rfl rfl (qel (f:=qcX) (m:=63) rfl rfl) rfl
   |trace_state
def qwK(set k:Nat):Bool:=decide (set/2^k%2=1)
def qcz(l:List Cut)(set:Nat):Nat→List Cut
 |0=>[]
 |k+1=>match l[k]? with
  |some c=>if qwK set k=true then qcz l set k++[c]else qcz l set k
  |none=>qcz l set k
def qwL(s:Site)(l:List Cut)(set:Nat):Nat→Grid
 |0=>s.bed
 |k+1=>match l[k]? with
  |some c=>if qwK set k=true then qeL s (qwL s l set k) c else qwL s l set k
  |none=>qwL s l set k
def qgS(s:Site)(l:List Cut)(set:Nat):Grid:=qwL s l set l.length
theorem qlc{l:List Cut}{set k:Nat}(h:k<l.length):qcz l set (k+1)=if qwK set k=true then qcz l set k++[l[k]]else qcz l set k:=by simp only[qcz,List.getElem?_eq_getElem h]
theorem qr7{s:Site}{l:List Cut}{set k:Nat}(h:k<l.length):qwL s l set (k+1)=if qwK set k=true then qeL s (qwL s l set k) l[k]else qwL s l set k:=by simp only[qwL,List.getElem?_eq_getElem h]
theorem qr8{s:Site}{l:List Cut}{c:Cut}:∀n,n≤l.length→qeu s (l++[c]) n=qeu s l n
 |0,_=>rfl
 |n+1,h=>by
  have ih:=qr8 (s:=s) (l:=l) (c:=c) n (by omega)
  rw[qfr (show n<(l++[c]).length by simp;omega),qfr (show n<l.length by omega),ih,List.getElem_append_left (by omega)]
theorem qnq{s:Site}{l:List Cut}{set:Nat}:∀k,k≤l.length→qeu s (qcz l set k) (qcz l set k).length=qwL s l set k
 |0,_=>rfl
 |k+1,h=>by
  have ih:=qnq (s:=s) (l:=l) (set:=set) k (by omega)
  have hk:k<l.length:=by omega
  rw[qlc hk,qr7 hk]
  by_cases hb:qwK set k=true
  ·rw[if_pos hb,if_pos hb,←ih,List.length_append,List.length_singleton,qfr (by simp),qr8 _ (Nat.le_refl _)]
   congr 1
   simp
  ·rw[if_neg hb,if_neg hb,ih]
theorem qh9{l:List Cut}{set:Nat}:∀k,∀c∈qcz l set k,c∈l
 |0,c,h=>by cases h
 |k+1,c,h=>by
  simp only[qcz]at h
  split at h
  ·rename_i d hd
   split at h
   ·rcases List.mem_append.1 h with h|h
    ·exact qh9 k c h
    ·simp only[List.mem_singleton]at h
     subst h
     exact List.mem_of_getElem? hd
   ·exact qh9 k c h
  ·exact qh9 k c h
theorem qia{l:List Cut}{set:Nat}:∀k,(qcz l set k).length≤k
 |0=>Nat.le_refl _
 |k+1=>by
  have:=qia (l:=l) (set:=set) k
  simp only[qcz]
  split
  ·split
   ·simp;omega
   ·omega
  ·omega
theorem qwM{s:Site}(h:OkSite s){l:List Cut}(hl:∀i (hi:i<l.length),OkCut s l[i]){set:Nat}:∀k,OkBed s (qwL s l set k)
 |0=>qr3 s h
 |k+1=>by
  have ih:=qwM h hl (set:=set) k
  by_cases hk:k<l.length
  ·rw[qr7 hk]
   split
   ·exact qeM h.bed ih (hl k hk)
   ·exact ih
  ·simp only[qwL,List.getElem?_eq_none (Nat.le_of_not_lt hk)];exact ih
def qBA:Option (Int×Int)→Int
 |none=>0
 |some v=>v.1
noncomputable def qBB(s:Site)(l:List Cut)(set k:Nat):Int:=match l[k]? with
 |some c=>qBA (qiO s (qgS s l set) c)
 |none=>0
def qwN(s:Site)(l:List Cut)(set k:Nat):Int:=match l[k]? with
 |some c=>(qbR s (qgS s l set) c).2.1
 |none=>0
noncomputable def qaw(s:Site)(l:List Cut)(set k:Nat):Int:=if qwK set k=false then qBB s l set k else 0
def qa6(s:Site)(l:List Cut)(set k:Nat):Int:=if qwK set k=false then qwN s l set k else 0
def qb9(n:Nat)(T:Nat→Nat→Int)(set j:Nat):List Int:=(List.range n).map fun k=>if k<j then T set k else 0
theorem qgC{n:Nat}{T:Nat→Nat→Int}{set j:Nat}:(qb9 n T set j).length=n:=by simp[qb9]
theorem qie{n:Nat}{T:Nat→Nat→Int}{set:Nat}:List.replicate n [D.int .i64 0]=(qb9 n T set 0).map qak:=by
 apply List.ext_getElem
 ·simp[qgC]
 ·intro i h1 h2
  simp[qb9,qak]
theorem qif{n:Nat}{T:Nat→Nat→Int}{set:Nat}:qb9 n T set n=qge n T set:=by
 unfold qb9 qge
 apply List.map_congr_left
 intro k hk
 rw[if_pos (List.mem_range.1 hk)]
theorem qgf{n:Nat}{T:Nat→Nat→Int}{set j:Nat}(hj:j<n):(qb9 n T set j).set j (T set j)=qb9 n T set (j+1):=by
 apply List.ext_getElem
 ·simp[qb9]
 ·intro i h1 h2
  have hi:i<n:=by simpa[qb9]using h2
  rw[List.getElem_set]
  simp only[qb9,List.getElem_map,List.getElem_range]
  split
  ·rename_i e;subst e;rw[if_pos (by omega)]
  ·by_cases h:i<j
   ·rw[if_pos h,if_pos (by omega)]
   ·rw[if_neg h,if_neg (by omega)]
theorem qig{n:Nat}{T:Nat→Nat→Int}{set j:Nat}(hj:j<n)(h:T set j=0):qb9 n T set (j+1)=qb9 n T set j:=by
 rw[←qgf hj,h]
 exact Ord.set_same (by rw[qgC];exact hj) (by simp[qb9])
theorem qpm{n:Nat}{T:Nat→Nat→Int}:[qge n T 0]=qbm n T 1:=rfl
theorem qyQ{hq:Nat→Option Blk}{n i:Nat}{a b:List (List Int)}(h1:hq 1=some ⟨3,false,[[.int .i64 n,.os 2 0 i,.os 3 0 i]]⟩)(h2:hq 2=some ⟨1,true,a.map qaV⟩)(h3:hq 3=some ⟨1,true,b.map qaV⟩)(ha:a.length=i)(hb:b.length=i):pur hq 64 (.op 1 0 0)=some (qiS n a b):=by
 have e1:∀m,pur hq (m+1) (.os 2 0 i)=some (.sl (a.map qaV)):=fun m=>qfh h2 (by simp[ha])
 have e2:∀m,pur hq (m+1) (.os 3 0 i)=some (.sl (b.map qaV)):=fun m=>qfh h3 (by simp[hb])
 have e3:pur hq 64 (.op 1 0 0)=(qbQ hq 63 [.int .i64 n,.os 2 0 i,.os 3 0 i]).map .ptr:=by
  show(hq 1).bind _=_
  rw[h1]
  rfl
 rw[e3]
 show((pur hq 62 (.int .i64 n)).bind fun d'=>(qbQ hq 62 [.os 2 0 i,.os 3 0 i]).map (d':: ·)).map D.ptr=_
 have e4:qbQ hq 62 [.os 2 0 i,.os 3 0 i]=some [.sl (a.map qaV),.sl (b.map qaV)]:=by
  show(pur hq 61 (.os 2 0 i)).bind (fun d'=>((pur hq 60 (.os 3 0 i)).bind fun d'=>(qbQ hq 60 []).map (d':: ·)).map (d':: ·))=_
  rw[e1 60,e2 59]
  rfl
 rw[e4]
 rfl
theorem qwY:qeS encCut 8:=fun _=>⟨rfl,rfl⟩
theorem qyR(s:Site)(hz:Sized s)(hs:OkSite s)(h100:s.bed.levels.length≤100)(l:List Cut)(h0:qde s l=0)(hl8:l.length≤8):
  Contract Tryz.prog 114 [.agg (encSite s),.sl (l.map encCut)] (.ret (.tup [qiS l.length (qbm l.length (qaw s l) (2^l.length)) (qbm l.length (qa6 s l) (2^l.length)),.int .i64 0])):=by
 obtain⟨hll,hl⟩:=qfp h0
 have hp8:=qB3 hl8
 have h1:=qcm s hz l (by omega) (by have:=hs.dreds;omega)
 rw[h0]at h1
 obtain⟨N,hN⟩:∃N,N=2^l.length:=⟨_,rfl⟩
 rw[←hN]at hp8 ⊢
 refine zT mix Tryz.func114 Tryz.ntmps114 Tryz.results114 rfl rfl rfl ?_;simp only[qac,Nat.reduceAdd]
 repeat'(first|((with_reducible apply qdP);rfl;rfl;rfl;omega)|((with_reducible apply qeW);rfl;rfl)|refine zS ?_|refine zA ?_|refine zF h1 ?_|(refine zC ?_ ?_<;>first|intro h|simp)|fail)
 all_goals try(exfalso;omega)
 rw[←hN]
 refine qaf N (fun i=>match i with
  |0=>⟨[(35,.int .i64 ((0:Nat):Int)),(34,.int .i64 (N:Int)),(1,.sl (l.map encCut)),(2,.op 0 0 0),(7,.op 1 0 0)],[(0,⟨12,true,[encSite s]⟩),(1,⟨3,false,[[.int .i64 l.length,.nilsl,.nilsl]]⟩)],160,122⟩
  |i+1=>⟨[(35,.int .i64 ((i+1:Nat):Int)),(34,.int .i64 (N:Int)),(1,.sl (l.map encCut)),(2,.op 0 0 0),(7,.op 1 0 0)],[(0,⟨12,true,[encSite s]⟩),(1,⟨3,false,[[.int .i64 l.length,.os 2 0 (i+1),.os 3 0 (i+1)]]⟩),(2,⟨1,true,(qbm l.length (qaw s l) (i+1)).map qaV⟩),(3,⟨1,true,(qbm l.length (qa6 s l) (i+1)).map qaV⟩)],160,122⟩) (fun _=>True) ?_ trivial ?_
 ·exact qaa (nx:=160) (k:=2) (ns:=[]) (ks:=[35,34,1,2,7]) [(0,0),(480,1)] rfl (by simp) (by kernel_rfl)
 intro i hi _
 by_cases hL:i<N
 rotate_left
 ·obtain⟨i,rfl⟩:∃j,i=j+1:=⟨i-1,by omega⟩
  have hiN:N=i+1:=by omega
  dsimp only
  repeat'(first|refine zQ ?_|(refine zC ?_ ?_<;>first|intro h|simp)|fail)
  all_goals try exact absurd (show i+1<N by omega) hL
  rw[hiN]
  exact qcs rfl rfl (qyQ rfl rfl rfl qib qib) rfl
 cases i with
 |zero=>
  dsimp only
  have hi2:0<N:=hL
  repeat'(first|refine zA ?_|fail)
  all_goals try exact absurd hL (by omega)
  refine qex ?_
  repeat'(first|(with_reducible apply qeh)|refine zA ?_|fail)
  all_goals try exact absurd hL (by omega)
  refine qex ?_
  repeat'(first|refine zA ?_|(refine zC ?_ ?_<;>first|intro h|simp)|fail)
  all_goals try exact absurd hL (by omega)
  refine qex ?_
  repeat'(first|refine zA ?_|fail)
  all_goals try exact absurd hL (by omega)
  refine qex ?_
  repeat'(first|(with_reducible apply qeh)|refine zA ?_|fail)
  all_goals try exact absurd hL (by omega)
  refine qex ?_
  repeat'(first|(with_reducible apply qeh)|refine zA ?_|fail)
  all_goals try exact absurd hL (by omega)
  refine Or.inr ⟨⟨[(9,.sl ((qcz l 0 l.length).map encCut)),(8,.int .i64 ((0:Nat):Int)),(35,.int .i64 ((0:Nat):Int)),(34,.int .i64 (N:Int)),(1,.sl (l.map encCut)),(2,.op 0 0 0),(7,.op 1 0 0)],[(0,⟨12,true,[encSite s]⟩),(1,⟨3,false,[[.int .i64 l.length,.nilsl,.nilsl]]⟩)],512,122⟩,?_,?_⟩
  rotate_left
  ·have hm:∀q (hq:q<(qcz l 0 l.length).length),OkCut s (qcz l 0 l.length)[q]:=fun q hi=>by
    obtain⟨j,hj,e⟩:=List.getElem_of_mem (qh9 l.length _ (List.getElem_mem hi))
    rw[←e];exact hl j hj
   have h2:=qno s hs (qcz l 0 l.length) (by have:=qia (l:=l) (set:=0) l.length;omega) hm
   rw[qnq l.length (Nat.le_refl _)]at h2
   have hbo:=qwM hs hl (set:=0) l.length
   have hbl:=hbo.len hs.bed
   change Contract _ _ _ (.ret (.agg (encGrid (qgS s l 0))))at h2
   repeat'(first|refine zQ ?_|refine zF h2 ?_|fail)
   refine qfj (len:=l.length) (z:=.int .i64 0) rfl rfl (by kernel_rfl) rfl rfl (by kernel_rfl) (by omega) rfl ?_
   rw[show List.replicate l.length (qah (D.int .i64 0))=(qb9 l.length (qaw s l) 0 0).map qak from qie]
   repeat'(first|refine zA ?_|fail)
   refine qfj (len:=l.length) (z:=.int .i64 0) rfl rfl (by kernel_rfl) rfl rfl (by kernel_rfl) (by omega) rfl ?_
   rw[show List.replicate l.length (qah (D.int .i64 0))=(qb9 l.length (qa6 s l) 0 0).map qak from qie]
   repeat'(first|refine zA ?_|fail)
   refine Or.inr ⟨⟨[(13,.sl ((qge l.length (qaw s l) 0).map qak)),(14,.sl ((qge l.length (qa6 s l) 0).map qak)),(8,.int .i64 ((0:Nat):Int)),(35,.int .i64 ((0:Nat):Int)),(34,.int .i64 (N:Int)),(1,.sl (l.map encCut)),(2,.op 0 0 0),(7,.op 1 0 0)],[(0,⟨12,true,[encSite s]⟩),(1,⟨3,false,[[.int .i64 l.length,.nilsl,.nilsl]]⟩)],256,122⟩,?_,?_⟩
   ·repeat'(first|refine zQ ?_|fail)
    refine qaf l.length (fun k=>⟨[(66,.int .i64 k),(65,.int .i64 l.length),(64,.sl (l.map encCut)),(13,.os 5 0 l.length),(14,.os 6 0 l.length),(12,.op 4 0 0),(8,.int .i64 ((0:Nat):Int)),(35,.int .i64 ((0:Nat):Int)),(34,.int .i64 (N:Int)),(1,.sl (l.map encCut)),(2,.op 0 0 0),(7,.op 1 0 0)],[(5,⟨1,true,(qb9 l.length (qaw s l) 0 k).map qak⟩),(6,⟨1,true,(qb9 l.length (qa6 s l) 0 k).map qak⟩),(4,⟨6,false,[encGrid (qgS s l 0)]⟩),(0,⟨12,true,[encSite s]⟩),(1,⟨3,false,[[.int .i64 l.length,.nilsl,.nilsl]]⟩)],256,122⟩) (fun k=>True) ?_ trivial ?_
    ·exact qaa (nx:=256) (k:=0) (ns:=[]) (ks:=[66,65,64,13,14,12,8,35,34,1,2,7]) [(736,5),(832,6),(608,4),(0,0),(1,1)] rfl (by simp) (by kernel_rfl)
    intro k hk _
    have hpl1:=qgC (n:=l.length) (T:=qaw s l) (set:=0) (j:=k)
    have hpl2:=qgC (n:=l.length) (T:=qa6 s l) (set:=0) (j:=k)
    by_cases hK:k<l.length
    ·have hps:=qgf (T:=qaw s l) (set:=0) hK
     have hpp:=qgf (T:=qa6 s l) (set:=0) hK
     cases hb:qwK 0 k with
     |true=>
      have hm:0/2^k%2=1:=of_decide_eq_true hb
      rw[qig (T:=qaw s l) (set:=0) hK (by unfold qaw;rw[if_neg (by rw[hb];simp)]),qig (T:=qa6 s l) (set:=0) hK (by unfold qa6;rw[if_neg (by rw[hb];simp)])]
      repeat'(first|((with_reducible apply qfY);rfl;rfl;rfl;omega)|((with_reducible apply qem);rfl;rfl;rfl)|refine zS ?_|refine zA ?_|(refine zI ?_;intro hlt)|(refine zC ?_ ?_<;>first|intro h|simp)|fail)
      all_goals try exact absurd hK (by omega)
      all_goals try(exfalso;omega)
      exact⟨hK,trivial,qaa (nx:=256) (k:=0) (ns:=[]) (ks:=[66,65,64,13,14,12,8,35,34,1,2,7]) [(5,5),(6,6),(4,4),(0,0),(1,1)] rfl (by simp) (by kernel_rfl)⟩
     |false=>
      have hm:0/2^k%2=0:=by have:=of_decide_eq_false hb;omega
      have er:qaw s l 0 k=qBA (qiO s (qgS s l 0) l[k]):=by unfold qaw qBB;rw[if_pos hb,List.getElem?_eq_getElem hK]
      have ep:qa6 s l 0 k=(qbR s (qgS s l 0) l[k]).2.1:=by unfold qa6 qwN;rw[if_pos hb,List.getElem?_eq_getElem hK]
      have h3:=qh7 s hz hs (qgS s l 0) hbo (by unfold qgS;omega) l[k] (hl k hK)
      have h4:Contract Tryz.prog 123 [.agg (encSite s),.agg (encGrid (qgS s l 0)),.agg (encCut l[k])] (.ret (.tup [.int .i64 (qbR s (qgS s l 0) l[k]).1,.int .i64 (qbR s (qgS s l 0) l[k]).2.1,.bool (qbR s (qgS s l 0) l[k]).2.2])):=qgw s hs hz (qgS s l 0) hbo (by unfold qgS;omega) l[k] (hl k hK)
      rw[er]at hps
      rw[ep]at hpp
      generalize qiO s (qgS s l 0) l[k]=o at*
      generalize qbR s (qgS s l 0) l[k]=ef at*
      generalize qgS s l 0=bg at*
      have ho:(o=none)∨∃r c,o=some (r,c):=by cases o with|none=>exact .inl rfl|some v=>exact .inr ⟨v.1,v.2,rfl⟩
      rcases ho with rfl|⟨r,c,rfl⟩
      ·repeat'(first|((with_reducible apply qfY);rfl;rfl;rfl;omega)|((with_reducible apply qem);rfl;rfl;rfl)|refine zS ?_|refine zA ?_|refine zF h3 ?_|(refine zI ?_;intro hlt)|(refine zC ?_ ?_<;>first|intro h|simp)|fail)
       all_goals try exact absurd hK (by omega)
       all_goals try(exfalso;omega)
       refine qaA (f:=qak) (l:=qb9 l.length (qaw s l) 0 k) (a:=0) rfl rfl rfl (by omega) rfl rfl rfl rfl (Nat.le_refl _) rfl ?_
       repeat'(first|refine zQ ?_|refine zF h4 ?_|(refine zI ?_;intro hlt)|fail)
       refine qaA (f:=qak) (l:=qb9 l.length (qa6 s l) 0 k) (a:=ef.2.1) rfl rfl rfl (by omega) rfl rfl rfl rfl (Nat.le_refl _) rfl ?_
       repeat'(first|refine zQ ?_|fail)
       refine⟨hK,trivial,?_⟩
       rw[show(qb9 l.length (qaw s l) 0 k).set k 0=qb9 l.length (qaw s l) 0 (k+1)from hps,hpp]
       exact qaa (nx:=256) (k:=0) (ns:=[]) (ks:=[66,65,64,13,14,12,8,35,34,1,2,7]) [(5,5),(6,6),(4,4),(0,0),(1,1)] rfl (by simp) (by kernel_rfl)
      ·repeat'(first|((with_reducible apply qfY);rfl;rfl;rfl;omega)|((with_reducible apply qem);rfl;rfl;rfl)|refine zS ?_|refine zA ?_|refine zF h3 ?_|(refine zI ?_;intro hlt)|(refine zC ?_ ?_<;>first|intro h|simp)|fail)
       all_goals try exact absurd hK (by omega)
       all_goals try(exfalso;omega)
       refine qaA (f:=qak) (l:=qb9 l.length (qaw s l) 0 k) (a:=r) rfl rfl rfl (by omega) rfl rfl rfl rfl (Nat.le_refl _) rfl ?_
       repeat'(first|refine zQ ?_|refine zF h4 ?_|(refine zI ?_;intro hlt)|fail)
       refine qaA (f:=qak) (l:=qb9 l.length (qa6 s l) 0 k) (a:=ef.2.1) rfl rfl rfl (by omega) rfl rfl rfl rfl (Nat.le_refl _) rfl ?_
       repeat'(first|refine zQ ?_|fail)
       refine⟨hK,trivial,?_⟩
       rw[show(qb9 l.length (qaw s l) 0 k).set k r=qb9 l.length (qaw s l) 0 (k+1)from hps,hpp]
       exact qaa (nx:=256) (k:=0) (ns:=[]) (ks:=[66,65,64,13,14,12,8,35,34,1,2,7]) [(5,5),(6,6),(4,4),(0,0),(1,1)] rfl (by simp) (by kernel_rfl)
    ·obtain rfl:k=l.length:=by omega
     repeat'(first|refine zQ ?_|(refine zI ?_;intro hlt)|(refine zC ?_ ?_<;>first|intro h|simp)|((with_reducible apply qaG);rfl;rfl)|fail)
     all_goals try exact absurd (show l.length<l.length by omega) hK
     rw[qif,qif]
     exact(qq0 [5,6] [(13,.sl ((qge l.length (qaw s l) 0).map qak)),(14,.sl ((qge l.length (qa6 s l) 0).map qak))] (fun x hx=>by
      simp only[List.mem_cons,List.not_mem_nil,or_false]at hx
      rcases hx with rfl|rfl
      ·exact qfh (m:=63) (k:=1) rfl (by simp[qge])
      ·exact qfh (m:=63) (k:=1) rfl (by simp[qge]))).trans (qaa (nx:=256) (k:=0) (ns:=[]) (ks:=[13,14,8,35,34,1,2,7]) [(0,0),(1,1)] rfl (by simp) (by kernel_rfl))
   ·repeat'(first|((with_reducible apply qbW);rfl;rfl;rfl)|refine zS ?_|refine zA ?_|fail)
    refine qlR (k:=1) (cs:=qaV (qge l.length (qaw s l) 0)) rfl rfl rfl rfl rfl rfl (by decide) rfl ?_
    repeat'(first|refine zA ?_|fail)
    refine qb0 (qfZ (f:=qaV) (a:=qge l.length (qaw s l) 0) qnu rfl rfl rfl rfl (by kernel_rfl) (by kernel_rfl)) rfl ?_
    repeat'(first|((with_reducible apply qbW);rfl;rfl;rfl)|refine zS ?_|refine zA ?_|fail)
    refine qlR (k:=1) (cs:=qaV (qge l.length (qa6 s l) 0)) rfl rfl rfl rfl rfl rfl (by decide) rfl ?_
    repeat'(first|refine zA ?_|fail)
    refine qb0 (qfZ (f:=qaV) (a:=qge l.length (qa6 s l) 0) qnu rfl rfl rfl rfl (by kernel_rfl) (by kernel_rfl)) rfl ?_
    repeat'(first|((with_reducible apply qbW);rfl;rfl;rfl)|refine zS ?_|refine zA ?_|fail)
    refine⟨hL,trivial,?_⟩
    rw[qpm,qpm]
    exact qaa (nx:=160) (k:=0) (ns:=[]) (ks:=[35,34,1,2,7]) [(0,0),(1,1),(480,2),(832,3)] rfl (by simp) (by kernel_rfl)
  repeat'(first|refine zQ ?_|fail)
  refine qaf l.length (fun k=>⟨[(9,.os 4 0 (qcz l 0 k).length),(40,.int .i64 k),(39,.int .i64 l.length),(38,.sl (l.map encCut)),(8,.int .i64 ((0:Nat):Int)),(35,.int .i64 ((0:Nat):Int)),(34,.int .i64 (N:Int)),(1,.sl (l.map encCut)),(2,.op 0 0 0),(7,.op 1 0 0)],[(4,⟨8,true,(qcz l 0 k).map encCut⟩),(0,⟨12,true,[encSite s]⟩),(1,⟨3,false,[[.int .i64 l.length,.nilsl,.nilsl]]⟩)],256,122⟩) (fun k=>True) ?_ trivial ?_
  ·exact qaa (nx:=256) (k:=8) (ns:=[(9,4)]) (ks:=[40,39,38,8,35,34,1,2,7]) [(0,0),(1,1)] rfl (by simp;rfl) (by kernel_rfl)
  ·intro k hk _
   have hsl:=qia (l:=l) (set:=0) k
   by_cases hK:k<l.length
   ·have hsu:=qlc (l:=l) (set:=0) hK
    cases hb:qwK 0 k with
    |true=>
     have hm:0/2^k%2=1:=of_decide_eq_true hb
     rw[if_pos hb]at hsu
     repeat'(first|((with_reducible apply qfY);rfl;rfl;rfl;omega)|((with_reducible apply qem);rfl;rfl;rfl)|refine zS ?_|refine zA ?_|(refine zI ?_;intro hlt)|(refine zC ?_ ?_<;>first|intro h|simp)|fail)
     all_goals try exact absurd hK (by omega)
     all_goals try(exfalso;omega)
     refine qaE (f:=encCut) (a:=l[k]) (l:=qcz l 0 k) qwY rfl rfl rfl rfl rfl rfl (by kernel_rfl) (by kernel_rfl) (by omega) rfl ?_
     repeat'(first|refine zQ ?_|fail)
     refine⟨hK,trivial,?_⟩
     have el:(qcz l 0 k).length+1=(qcz l 0 (k+1)).length:=by rw[hsu];simp
     rw[←hsu,el]
     exact qaa (nx:=256) (k:=8) (ns:=[]) (ks:=[9,40,39,38,8,35,34,1,2,7]) [(4,4),(0,0),(1,1)] rfl (by simp) (by kernel_rfl)
    |false=>
     have hm:¬0/2^k%2=1:=of_decide_eq_false hb
     rw[if_neg (by rw[hb];simp)]at hsu
     rw[hsu]
     repeat'(first|((with_reducible apply qfY);rfl;rfl;rfl;omega)|((with_reducible apply qem);rfl;rfl;rfl)|refine zS ?_|refine zA ?_|(refine zI ?_;intro hlt)|(refine zC ?_ ?_<;>first|intro h|simp)|fail)
     all_goals try exact absurd hK (by omega)
     all_goals try(exfalso;omega)
     exact⟨hK,trivial,qaa (nx:=256) (k:=8) (ns:=[]) (ks:=[9,40,39,38,8,35,34,1,2,7]) [(4,4),(0,0),(1,1)] rfl (by simp) (by kernel_rfl)⟩
   ·obtain rfl:k=l.length:=by omega
    repeat'(first|refine zQ ?_|(refine zI ?_;intro hlt)|(refine zC ?_ ?_<;>first|intro h|simp)|((with_reducible apply qaG);rfl;rfl)|fail)
    all_goals try exact absurd (show l.length<l.length by omega) hK
    exact(qq0 [4] [(9,.sl ((qcz l 0 l.length).map encCut))] (fun x hx=>by
     simp only[List.mem_singleton]at hx
     subst hx
     exact qfh (m:=63) (k:=8) rfl (by simp))).trans (qaa (nx:=512) (k:=0) (ns:=[]) (ks:=[9,8,35,34,1,2,7]) [(0,0),(1,1)] rfl (by simp) (by kernel_rfl))
 |succ i=>
  dsimp only
  have hi2:(i+1)<N:=hL
  repeat'(first|refine zA ?_|fail)
  all_goals try exact absurd hL (by omega)
  refine qex ?_
  repeat'(first|(with_reducible apply qeh)|refine zA ?_|fail)
  all_goals try exact absurd hL (by omega)
  refine qex ?_
  repeat'(first|refine zA ?_|(refine zC ?_ ?_<;>first|intro h|simp)|fail)
  all_goals try exact absurd hL (by omega)
  refine qex ?_
  repeat'(first|refine zA ?_|fail)
  all_goals try exact absurd hL (by omega)
  refine qex ?_
  repeat'(first|(with_reducible apply qeh)|refine zA ?_|fail)
  all_goals try exact absurd hL (by omega)
  refine qex ?_
  repeat'(first|(with_reducible apply qeh)|refine zA ?_|fail)
  all_goals try exact absurd hL (by omega)
  refine Or.inr ⟨⟨[(9,.sl ((qcz l (i+1) l.length).map encCut)),(8,.int .i64 ((i+1:Nat):Int)),(35,.int .i64 ((i+1:Nat):Int)),(34,.int .i64 (N:Int)),(1,.sl (l.map encCut)),(2,.op 0 0 0),(7,.op 1 0 0)],[(0,⟨12,true,[encSite s]⟩),(1,⟨3,false,[[.int .i64 l.length,.os 2 0 (i+1),.os 3 0 (i+1)]]⟩),(2,⟨1,true,(qbm l.length (qaw s l) (i+1)).map qaV⟩),(3,⟨1,true,(qbm l.length (qa6 s l) (i+1)).map qaV⟩)],512,122⟩,?_,?_⟩
  rotate_left
  ·have hm:∀q (hq:q<(qcz l (i+1) l.length).length),OkCut s (qcz l (i+1) l.length)[q]:=fun q hi=>by
    obtain⟨j,hj,e⟩:=List.getElem_of_mem (qh9 l.length _ (List.getElem_mem hi))
    rw[←e];exact hl j hj
   have h2:=qno s hs (qcz l (i+1) l.length) (by have:=qia (l:=l) (set:=(i+1)) l.length;omega) hm
   rw[qnq l.length (Nat.le_refl _)]at h2
   have hbo:=qwM hs hl (set:=(i+1)) l.length
   have hbl:=hbo.len hs.bed
   change Contract _ _ _ (.ret (.agg (encGrid (qgS s l (i+1)))))at h2
   repeat'(first|refine zQ ?_|refine zF h2 ?_|fail)
   refine qfj (len:=l.length) (z:=.int .i64 0) rfl rfl (by kernel_rfl) rfl rfl (by kernel_rfl) (by omega) rfl ?_
   rw[show List.replicate l.length (qah (D.int .i64 0))=(qb9 l.length (qaw s l) (i+1) 0).map qak from qie]
   repeat'(first|refine zA ?_|fail)
   refine qfj (len:=l.length) (z:=.int .i64 0) rfl rfl (by kernel_rfl) rfl rfl (by kernel_rfl) (by omega) rfl ?_
   rw[show List.replicate l.length (qah (D.int .i64 0))=(qb9 l.length (qa6 s l) (i+1) 0).map qak from qie]
   repeat'(first|refine zA ?_|fail)
   refine Or.inr ⟨⟨[(13,.sl ((qge l.length (qaw s l) (i+1)).map qak)),(14,.sl ((qge l.length (qa6 s l) (i+1)).map qak)),(8,.int .i64 ((i+1:Nat):Int)),(35,.int .i64 ((i+1:Nat):Int)),(34,.int .i64 (N:Int)),(1,.sl (l.map encCut)),(2,.op 0 0 0),(7,.op 1 0 0)],[(0,⟨12,true,[encSite s]⟩),(1,⟨3,false,[[.int .i64 l.length,.os 2 0 (i+1),.os 3 0 (i+1)]]⟩),(2,⟨1,true,(qbm l.length (qaw s l) (i+1)).map qaV⟩),(3,⟨1,true,(qbm l.length (qa6 s l) (i+1)).map qaV⟩)],256,122⟩,?_,?_⟩
   ·repeat'(first|refine zQ ?_|fail)
    refine qaf l.length (fun k=>⟨[(66,.int .i64 k),(65,.int .i64 l.length),(64,.sl (l.map encCut)),(13,.os 5 0 l.length),(14,.os 6 0 l.length),(12,.op 4 0 0),(8,.int .i64 ((i+1:Nat):Int)),(35,.int .i64 ((i+1:Nat):Int)),(34,.int .i64 (N:Int)),(1,.sl (l.map encCut)),(2,.op 0 0 0),(7,.op 1 0 0)],[(5,⟨1,true,(qb9 l.length (qaw s l) (i+1) k).map qak⟩),(6,⟨1,true,(qb9 l.length (qa6 s l) (i+1) k).map qak⟩),(4,⟨6,false,[encGrid (qgS s l (i+1))]⟩),(0,⟨12,true,[encSite s]⟩),(1,⟨3,false,[[.int .i64 l.length,.os 2 0 (i+1),.os 3 0 (i+1)]]⟩),(2,⟨1,true,(qbm l.length (qaw s l) (i+1)).map qaV⟩),(3,⟨1,true,(qbm l.length (qa6 s l) (i+1)).map qaV⟩)],256,122⟩) (fun k=>True) ?_ trivial ?_
    ·exact qaa (nx:=256) (k:=0) (ns:=[]) (ks:=[66,65,64,13,14,12,8,35,34,1,2,7]) [(736,5),(832,6),(608,4),(0,0),(1,1),(2,2),(3,3)] rfl (by simp) (by kernel_rfl)
    intro k hk _
    have hpl1:=qgC (n:=l.length) (T:=qaw s l) (set:=(i+1)) (j:=k)
    have hpl2:=qgC (n:=l.length) (T:=qa6 s l) (set:=(i+1)) (j:=k)
    by_cases hK:k<l.length
    ·have hps:=qgf (T:=qaw s l) (set:=(i+1)) hK
     have hpp:=qgf (T:=qa6 s l) (set:=(i+1)) hK
     cases hb:qwK (i+1) k with
     |true=>
      have hm:(i+1)/2^k%2=1:=of_decide_eq_true hb
      rw[qig (T:=qaw s l) (set:=(i+1)) hK (by unfold qaw;rw[if_neg (by rw[hb];simp)]),qig (T:=qa6 s l) (set:=(i+1)) hK (by unfold qa6;rw[if_neg (by rw[hb];simp)])]
      repeat'(first|((with_reducible apply qfY);rfl;rfl;rfl;omega)|((with_reducible apply qem);rfl;rfl;rfl)|refine zS ?_|refine zA ?_|(refine zI ?_;intro hlt)|(refine zC ?_ ?_<;>first|intro h|simp)|fail)
      all_goals try exact absurd hK (by omega)
      all_goals try(exfalso;omega)
      exact⟨hK,trivial,qaa (nx:=256) (k:=0) (ns:=[]) (ks:=[66,65,64,13,14,12,8,35,34,1,2,7]) [(5,5),(6,6),(4,4),(0,0),(1,1),(2,2),(3,3)] rfl (by simp) (by kernel_rfl)⟩
     |false=>
      have hm:(i+1)/2^k%2=0:=by have:=of_decide_eq_false hb;omega
      have er:qaw s l (i+1) k=qBA (qiO s (qgS s l (i+1)) l[k]):=by unfold qaw qBB;rw[if_pos hb,List.getElem?_eq_getElem hK]
      have ep:qa6 s l (i+1) k=(qbR s (qgS s l (i+1)) l[k]).2.1:=by unfold qa6 qwN;rw[if_pos hb,List.getElem?_eq_getElem hK]
      have h3:=qh7 s hz hs (qgS s l (i+1)) hbo (by unfold qgS;omega) l[k] (hl k hK)
      have h4:Contract Tryz.prog 123 [.agg (encSite s),.agg (encGrid (qgS s l (i+1))),.agg (encCut l[k])] (.ret (.tup [.int .i64 (qbR s (qgS s l (i+1)) l[k]).1,.int .i64 (qbR s (qgS s l (i+1)) l[k]).2.1,.bool (qbR s (qgS s l (i+1)) l[k]).2.2])):=qgw s hs hz (qgS s l (i+1)) hbo (by unfold qgS;omega) l[k] (hl k hK)
      rw[er]at hps
      rw[ep]at hpp
      generalize qiO s (qgS s l (i+1)) l[k]=o at*
      generalize qbR s (qgS s l (i+1)) l[k]=ef at*
      generalize qgS s l (i+1)=bg at*
      have ho:(o=none)∨∃r c,o=some (r,c):=by cases o with|none=>exact .inl rfl|some v=>exact .inr ⟨v.1,v.2,rfl⟩
      rcases ho with rfl|⟨r,c,rfl⟩
      ·repeat'(first|((with_reducible apply qfY);rfl;rfl;rfl;omega)|((with_reducible apply qem);rfl;rfl;rfl)|refine zS ?_|refine zA ?_|refine zF h3 ?_|(refine zI ?_;intro hlt)|(refine zC ?_ ?_<;>first|intro h|simp)|fail)
       all_goals try exact absurd hK (by omega)
       all_goals try(exfalso;omega)
       refine qaA (f:=qak) (l:=qb9 l.length (qaw s l) (i+1) k) (a:=0) rfl rfl rfl (by omega) rfl rfl rfl rfl (Nat.le_refl _) rfl ?_
       repeat'(first|refine zQ ?_|refine zF h4 ?_|(refine zI ?_;intro hlt)|fail)
       refine qaA (f:=qak) (l:=qb9 l.length (qa6 s l) (i+1) k) (a:=ef.2.1) rfl rfl rfl (by omega) rfl rfl rfl rfl (Nat.le_refl _) rfl ?_
       repeat'(first|refine zQ ?_|fail)
       refine⟨hK,trivial,?_⟩
       rw[show(qb9 l.length (qaw s l) (i+1) k).set k 0=qb9 l.length (qaw s l) (i+1) (k+1)from hps,hpp]
       exact qaa (nx:=256) (k:=0) (ns:=[]) (ks:=[66,65,64,13,14,12,8,35,34,1,2,7]) [(5,5),(6,6),(4,4),(0,0),(1,1),(2,2),(3,3)] rfl (by simp) (by kernel_rfl)
      ·repeat'(first|((with_reducible apply qfY);rfl;rfl;rfl;omega)|((with_reducible apply qem);rfl;rfl;rfl)|refine zS ?_|refine zA ?_|refine zF h3 ?_|(refine zI ?_;intro hlt)|(refine zC ?_ ?_<;>first|intro h|simp)|fail)
       all_goals try exact absurd hK (by omega)
       all_goals try(exfalso;omega)
       refine qaA (f:=qak) (l:=qb9 l.length (qaw s l) (i+1) k) (a:=r) rfl rfl rfl (by omega) rfl rfl rfl rfl (Nat.le_refl _) rfl ?_
       repeat'(first|refine zQ ?_|refine zF h4 ?_|(refine zI ?_;intro hlt)|fail)
       refine qaA (f:=qak) (l:=qb9 l.length (qa6 s l) (i+1) k) (a:=ef.2.1) rfl rfl rfl (by omega) rfl rfl rfl rfl (Nat.le_refl _) rfl ?_
       repeat'(first|refine zQ ?_|fail)
       refine⟨hK,trivial,?_⟩
       rw[show(qb9 l.length (qaw s l) (i+1) k).set k r=qb9 l.length (qaw s l) (i+1) (k+1)from hps,hpp]
       exact qaa (nx:=256) (k:=0) (ns:=[]) (ks:=[66,65,64,13,14,12,8,35,34,1,2,7]) [(5,5),(6,6),(4,4),(0,0),(1,1),(2,2),(3,3)] rfl (by simp) (by kernel_rfl)
    ·obtain rfl:k=l.length:=by omega
     repeat'(first|refine zQ ?_|(refine zI ?_;intro hlt)|(refine zC ?_ ?_<;>first|intro h|simp)|((with_reducible apply qaG);rfl;rfl)|fail)
     all_goals try exact absurd (show l.length<l.length by omega) hK
     rw[qif,qif]
     exact(qq0 [5,6] [(13,.sl ((qge l.length (qaw s l) (i+1)).map qak)),(14,.sl ((qge l.length (qa6 s l) (i+1)).map qak))] (fun x hx=>by
      simp only[List.mem_cons,List.not_mem_nil,or_false]at hx
      rcases hx with rfl|rfl
      ·exact qfh (m:=63) (k:=1) rfl (by simp[qge])
      ·exact qfh (m:=63) (k:=1) rfl (by simp[qge]))).trans (qaa (nx:=256) (k:=0) (ns:=[]) (ks:=[13,14,8,35,34,1,2,7]) [(0,0),(1,1),(2,2),(3,3)] rfl (by simp) (by kernel_rfl))
   ·repeat'(first|((with_reducible apply qbW);rfl;rfl;rfl)|refine zS ?_|refine zA ?_|fail)
    refine qlR (k:=1) (cs:=qaV (qge l.length (qaw s l) (i+1))) rfl rfl rfl rfl rfl rfl (by decide) rfl ?_
    repeat'(first|refine zA ?_|fail)
    refine qg9 (f:=qaV) (a:=qge l.length (qaw s l) (i+1)) (l:=qbm l.length (qaw s l) (i+1)) qnu rfl rfl rfl (by simp[qbm]) rfl rfl (by kernel_rfl) (by kernel_rfl) (by omega) rfl ?_
    repeat'(first|((with_reducible apply qbW);rfl;rfl;rfl)|refine zS ?_|refine zA ?_|fail)
    refine qlR (k:=1) (cs:=qaV (qge l.length (qa6 s l) (i+1))) rfl rfl rfl rfl rfl rfl (by decide) rfl ?_
    repeat'(first|refine zA ?_|fail)
    refine qg9 (f:=qaV) (a:=qge l.length (qa6 s l) (i+1)) (l:=qbm l.length (qa6 s l) (i+1)) qnu rfl rfl rfl (by simp[qbm]) rfl rfl (by kernel_rfl) (by kernel_rfl) (by omega) rfl ?_
    repeat'(first|((with_reducible apply qbW);rfl;rfl;rfl)|refine zS ?_|refine zA ?_|fail)
    refine⟨hL,trivial,?_⟩
    rw[←qml,←qml]
    exact qaa (nx:=160) (k:=0) (ns:=[]) (ks:=[35,34,1,2,7]) [(0,0),(1,1),(2,2),(3,3)] rfl (by simp) (by kernel_rfl)
  repeat'(first|refine zQ ?_|fail)
  refine qaf l.length (fun k=>⟨[(9,.os 4 0 (qcz l (i+1) k).length),(40,.int .i64 k),(39,.int .i64 l.length),(38,.sl (l.map encCut)),(8,.int .i64 ((i+1:Nat):Int)),(35,.int .i64 ((i+1:Nat):Int)),(34,.int .i64 (N:Int)),(1,.sl (l.map encCut)),(2,.op 0 0 0),(7,.op 1 0 0)],[(4,⟨8,true,(qcz l (i+1) k).map encCut⟩),(0,⟨12,true,[encSite s]⟩),(1,⟨3,false,[[.int .i64 l.length,.os 2 0 (i+1),.os 3 0 (i+1)]]⟩),(2,⟨1,true,(qbm l.length (qaw s l) (i+1)).map qaV⟩),(3,⟨1,true,(qbm l.length (qa6 s l) (i+1)).map qaV⟩)],256,122⟩) (fun k=>True) ?_ trivial ?_
  ·exact qaa (nx:=256) (k:=8) (ns:=[(9,4)]) (ks:=[40,39,38,8,35,34,1,2,7]) [(0,0),(1,1),(2,2),(3,3)] rfl (by simp;rfl) (by kernel_rfl)
  ·intro k hk _
   have hsl:=qia (l:=l) (set:=(i+1)) k
   by_cases hK:k<l.length
   ·have hsu:=qlc (l:=l) (set:=(i+1)) hK
    cases hb:qwK (i+1) k with
    |true=>
     have hm:(i+1)/2^k%2=1:=of_decide_eq_true hb
     rw[if_pos hb]at hsu
     repeat'(first|((with_reducible apply qfY);rfl;rfl;rfl;omega)|((with_reducible apply qem);rfl;rfl;rfl)|refine zS ?_|refine zA ?_|(refine zI ?_;intro hlt)|(refine zC ?_ ?_<;>first|intro h|simp)|fail)
     all_goals try exact absurd hK (by omega)
     all_goals try(exfalso;omega)
     refine qaE (f:=encCut) (a:=l[k]) (l:=qcz l (i+1) k) qwY rfl rfl rfl rfl rfl rfl (by kernel_rfl) (by kernel_rfl) (by omega) rfl ?_
     repeat'(first|refine zQ ?_|fail)
     refine⟨hK,trivial,?_⟩
     have el:(qcz l (i+1) k).length+1=(qcz l (i+1) (k+1)).length:=by rw[hsu];simp
     rw[←hsu,el]
     exact qaa (nx:=256) (k:=8) (ns:=[]) (ks:=[9,40,39,38,8,35,34,1,2,7]) [(4,4),(0,0),(1,1),(2,2),(3,3)] rfl (by simp) (by kernel_rfl)
    |false=>
     have hm:¬(i+1)/2^k%2=1:=of_decide_eq_false hb
     rw[if_neg (by rw[hb];simp)]at hsu
     rw[hsu]
     repeat'(first|((with_reducible apply qfY);rfl;rfl;rfl;omega)|((with_reducible apply qem);rfl;rfl;rfl)|refine zS ?_|refine zA ?_|(refine zI ?_;intro hlt)|(refine zC ?_ ?_<;>first|intro h|simp)|fail)
     all_goals try exact absurd hK (by omega)
     all_goals try(exfalso;omega)
     exact⟨hK,trivial,qaa (nx:=256) (k:=8) (ns:=[]) (ks:=[9,40,39,38,8,35,34,1,2,7]) [(4,4),(0,0),(1,1),(2,2),(3,3)] rfl (by simp) (by kernel_rfl)⟩
   ·obtain rfl:k=l.length:=by omega
    repeat'(first|refine zQ ?_|(refine zI ?_;intro hlt)|(refine zC ?_ ?_<;>first|intro h|simp)|((with_reducible apply qaG);rfl;rfl)|fail)
    all_goals try exact absurd (show l.length<l.length by omega) hK
    exact(qq0 [4] [(9,.sl ((qcz l (i+1) l.length).map encCut))] (fun x hx=>by
     simp only[List.mem_singleton]at hx
     subst hx
     exact qfh (m:=63) (k:=8) rfl (by simp))).trans (qaa (nx:=512) (k:=0) (ns:=[]) (ks:=[9,8,35,34,1,2,7]) [(0,0),(1,1),(2,2),(3,3)] rfl (by simp) (by kernel_rfl))
theorem qwZ(s:Site)(hz:Sized s)(hd:s.dreds.length<1000000000000)(l:List Cut)(hl:l.length≤9223372036854775807)(h0:qde s l≠0):
  Contract Tryz.prog 114 [.agg (encSite s),.sl (l.map encCut)] (.ret (.tup [.nilptr,.int .i64 (qde s l)])):=by
 have h1:=qcm s hz l hl hd
 generalize qde s l=q at*
 refine zT mix Tryz.func114 Tryz.ntmps114 Tryz.results114 rfl rfl rfl ?_;simp only[qac,Nat.reduceAdd]
 repeat'(first|((with_reducible apply qdP);rfl;rfl;rfl;omega)|((with_reducible apply qeW);rfl;rfl)|refine zS ?_|refine zA ?_|refine zF h1 ?_|(refine zC ?_ ?_<;>first|intro h|simp)|fail)
 all_goals first
  |exact qcs rfl rfl rfl rfl
  |(exfalso;omega)
  |trace_state
theorem qw0(s:Site)(hz:Sized s)(hd:s.dreds.length<1000000000000)(l:List Cut)(hl:l.length≤9223372036854775807)(h0:qde s l=0)(h8:8<l.length):
  Contract Tryz.prog 114 [.agg (encSite s),.sl (l.map encCut)] (.ret (.tup [.nilptr,.int .i64 8])):=by
 have h1:=qcm s hz l hl hd
 rw[h0]at h1
 refine zT mix Tryz.func114 Tryz.ntmps114 Tryz.results114 rfl rfl rfl ?_;simp only[qac,Nat.reduceAdd]
 repeat'(first|((with_reducible apply qeW);rfl;rfl)|refine zS ?_|refine zA ?_|refine zF h1 ?_|(refine zC ?_ ?_<;>first|intro h|simp)|((with_reducible apply qaG);rfl;rfl)|fail)
 all_goals first
  |exact qcs rfl rfl rfl rfl
  |(exfalso;omega)
  |trace_state
end Go.Pv.Soil

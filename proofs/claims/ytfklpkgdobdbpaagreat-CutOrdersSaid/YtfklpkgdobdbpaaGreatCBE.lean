import Derived.Test.YtfklpkgdobdbpaaGreatCAY
import Derived.Test.YtfklpkgdobdbpaaGreatCBD
/- Part of the proofs over YtfklpkgdobdbpaaGreat: S36, N12, N14, N15. -/
set_option linter.unusedVariables false
set_option linter.unusedSimpArgs false
set_option linter.unnecessarySimpa false
open Go Go.Proofs Go.Pv
set_option maxHeartbeats 8000000
set_option maxRecDepth 100000
set_option linter.unusedSimpArgs false
set_option linter.unusedVariables false
namespace Go.Pv.Soil
theorem qE7(g:Grid)(x:Int)(hx:0≤x∧x<g.levels.length)(hl:g.levels.length<1000000000000):Contract Tryz.prog 303 [.agg (qag g),.int .i64 x] (.ret (.bool (!decide (lv g.levels x.toNat=30000)))):=by
 obtain⟨k,rfl⟩:=Int.eq_ofNat_of_zero_le hx.1
 have:=qLZ g k (by omega)
 rw[←qbv]at this
 exact this
theorem qC5(g:Grid)(x:Int)(hx:0≤x∧x<g.levels.length)(hl:g.levels.length<1000000000000):Contract Tryz.prog 62 [.agg (qag g),.int .i64 x] (.ret (.bool (!decide (lv g.levels x.toNat=30000)))):=by
 obtain⟨k,rfl⟩:=Int.eq_ofNat_of_zero_le hx.1
 have:=c41 g hl k (by omega)
 rw[←qbv]at this
 exact this
theorem qH1(g:Ground)(hg:OkG g)(m:Grid)(hm:OkGrid m)(x y:Int)(hx:0≤x∧x<m.levels.length)(hy:0≤y∧y<m.levels.length):Contract Tryz.prog 216 [.agg (qeF g m),.int .i64 x,.int .i64 y] (.ret (.int .i64 (qba g m x.toNat y.toNat))):=by
 obtain⟨k,rfl⟩:=Int.eq_ofNat_of_zero_le hx.1
 obtain⟨j,rfl⟩:=Int.eq_ofNat_of_zero_le hy.1
 exact qKs g hg m hm k j (by omega) (by omega)
theorem qKu(g:Ground)(hg:OkG g)(hs:g.soils.length<1000000000000)(m:Grid)(hm:OkGrid m)(x y:Int)(hx:0≤x∧x<m.levels.length)(hy:0≤y∧y<m.levels.length):Contract Tryz.prog 137 [.agg (qam g),.agg (qag m),.int .i64 x,.int .i64 y] (.ret (.int .i64 (qba g m x.toNat y.toNat))):=by
 obtain⟨k,rfl⟩:=Int.eq_ofNat_of_zero_le hx.1
 obtain⟨j,rfl⟩:=Int.eq_ofNat_of_zero_le hy.1
 exact c62 g hg hs m hm k j (by omega) (by omega)
def qaE(g:Ground)(a:Grid)(N:List Int)(i:Nat):Nat→List Steep
 |0=>qbI g a i
 |j+1=>qaE g a N i j++match N[j]? with
  |some b=>qbx g a i b
  |none=>[]
theorem qem(g:Ground)(a:Grid){N:List Int}(i:Nat){j:Nat}(hj:j<N.length):qaE g a N i (j+1)=qaE g a N i j++qbx g a i N[j]:=by
 simp only[qaE,List.getElem?_eq_getElem hj]
theorem qjN(g:Ground)(a:Grid)(N:List Int)(i:Nat):∀j,j≤N.length→qaE g a N i j=qbI g a i++qc0 g a i (N.take j)
 |0,_=>by simp[qaE,qc0]
 |j+1,h=>by
  rw[qem g a i (by omega),qjN g a N i j (by omega),qof g a i (by omega),List.append_assoc]
theorem qjO(g:Ground)(a:Grid)(i:Nat):qaE g a (qbi a i a.levels.length) i (qbi a i a.levels.length).length=qbI g a (i+1):=by
 rw[qjN _ _ _ _ _ (Nat.le_refl _),List.take_length,qlB]
theorem qgw(g:Ground)(a:Grid)(N:List Int)(i:Nat):∀j,j≤N.length→(qaE g a N i j).length≤i*a.levels.length+j
 |0,_=>by have:=qgT g a i;simpa[qaE]using this
 |j+1,h=>by
  have h1:=qgw g a N i j (by omega)
  have h2:=qlC g a i (N[j]'(by omega))
  rw[qem g a i (by omega),List.length_append]
  omega
theorem c95(g:Ground)(hg:OkG g)(m:Grid)(hm:OkGrid m)(h0:qa2 m=0)(a:Grid)(ha:OkGrid a)(hla:a.levels.length=m.levels.length)(hnear:∀i n,qbi m i n=qbi a i n)(hal:∀i k,qba g m i k=qba g a i k):
  Contract Tryz.prog 278 [.agg (qeF g m),.agg (qag a)] (.ret (.fr 3 ((qbI g a a.levels.length).map qbW))):=by
 have hs:=ha.small
 refine zT mix Tryz.func278 Tryz.ntmps278 Tryz.results278 rfl rfl rfl ?_;simp only[qab,Nat.reduceAdd]
 repeat'(first|refine zQ ?_|fail)
 refine qad a.levels.length (fun i=>⟨[(5,.os 2 0 (qbI g a i).length),(15,.int .i64 i),(14,.int .i64 a.levels.length),(2,.op 0 0 0),(3,.op 1 0 0)],[(2,⟨3,true,(qbI g a i).map qbW⟩),(0,⟨7,true,[qeF g m]⟩),(1,⟨6,true,[qag a]⟩)],32,84⟩) (fun _=>True)
  (qaa (nx:=32) (k:=3) (ns:=[(5,2)]) (ks:=[15,14,2,3]) [(0,0),(32,1)] rfl (by simp;rfl) rfl) trivial ?_
 intro i hi _
 by_cases hlt:i<a.levels.length
 ·have c105i:=qKr g m hm h0 i (by omega)
  rw[hnear,←hla]at c105i
  repeat'(first|((with_reducible apply qdT);rfl;(exact c105i);(exact qbL);rfl)|refine zQ ?_|(refine zC ?_ ?_<;>first|intro h|simp)|fail)
  ·have hNm:∀j (hj:j<(qbi a i a.levels.length).length),0≤(qbi a i a.levels.length)[j]∧(qbi a i a.levels.length)[j]<a.levels.length:=fun j hj=>by
    obtain⟨k,h1,h2,_⟩:=(qcW a i _ _).1 (List.getElem_mem hj)
    omega
   have hNl:=qd0 a i a.levels.length
   have hend:=qjO g a i
   have hAl:=qgw g a (qbi a i a.levels.length) i
   have hsucc:=fun j hj=>qem g a (N:=qbi a i a.levels.length) i (j:=j) hj
   have hmul:=Nat.mul_le_mul (show i≤1024 by omega) hs
   generalize qbi a i a.levels.length=N at*
   refine qad N.length (fun j=>⟨[(5,.os 2 0 (qaE g a N i j).length),(22,.int .i64 j),(21,.int .i64 N.length),(20,.os 3 0 N.length),(6,.int .i64 i),(15,.int .i64 i),(14,.int .i64 a.levels.length),(2,.op 0 0 0),(3,.op 1 0 0)],[(2,⟨3,true,(qaE g a N i j).map qbW⟩),(3,⟨1,true,N.map qal⟩),(0,⟨7,true,[qeF g m]⟩),(1,⟨6,true,[qag a]⟩)],32,84⟩) (fun _=>True)
    (qaa (nx:=32) (k:=1) (ns:=[]) (ks:=[5,22,21,20,6,15,14,2,3]) [(2,2),(192,3),(0,0),(1,1)] rfl (by simp) (by kernel_rfl)) trivial ?_
   intro j hj _
   by_cases hlj:j<N.length
   ·have hb:=hNm j hlj
    have hl1:(qaE g a N i j).length≤1000000000:=by have:=hAl j hj;omega
    have hnil:qbx g a i N[j]=[]→qaE g a N i (j+1)=qaE g a N i j:=fun h=>by rw[hsucc j hlj,h,List.append_nil]
    have hone:∀s,qbx g a i N[j]=[s]→qaE g a N i (j+1)=qaE g a N i j++[s]:=fun s h=>by rw[hsucc j hlj,h]
    have e1:=qbv hlt
    have e2:lv a.levels N[j].toNat=a.levels[N[j].toNat]'(by omega):=qbv (by omega)
    have b1: -20000≤a.levels[i]∧a.levels[i]≤30000:=by
     have:=ha.rng i hlt
     omega
    have b2: -20000≤a.levels[N[j].toNat]'(by omega)∧a.levels[N[j].toNat]'(by omega)≤30000:=by
     have:=ha.rng N[j].toNat (by omega)
     omega
    have b3:=qfr hg hm i N[j].toNat
    have e3:=hal i N[j].toNat
    have c1:Contract Tryz.prog 303 [.agg (qag a),.int .i64 i] (.ret (.bool (!decide (lv a.levels i=30000)))):=qE7 a (i:Int) (by omega) (by omega)
    have c2:=qE7 a N[j] hb (by omega)
    have c3:Contract Tryz.prog 216 [.agg (qeF g m),.int .i64 i,.int .i64 N[j]] (.ret (.int .i64 (qba g m i N[j].toNat))):=qH1 g hg m hm (i:Int) N[j] (by omega) (by omega)
    repeat'(first|refine zQ ?_|refine zF c1 ?_|refine zF c2 ?_|refine zF c3 ?_|(refine zI ?_;intro hlt)|(refine zC ?_ ?_<;>first|intro h|simp)|(refine zG ?_ ?_<;>first|intro h|simp)|fail)
    all_goals try first
     |exact absurd hlj (by omega)
     |(refine⟨hlj,trivial,?_⟩
       rw[hnil (by unfold qbx;(repeat' split)<;>first|rfl|(exfalso;omega))]
       exact qaa (nx:=32) (k:=1) (ns:=[]) (ks:=[5,22,21,20,6,15,14,2,3]) [(2,2),(3,3),(0,0),(1,1)] rfl (by simp) (by kernel_rfl))
    ·refine qaH (f:=qbW) (a:=⟨_,_,_⟩) (l:=qaE g a N i j) qgv rfl rfl rfl rfl rfl rfl (by kernel_rfl) (by kernel_rfl) hl1 rfl ?_
     repeat'(first|refine zQ ?_|fail)
     refine⟨hlj,trivial,?_⟩
     have e:=hone ⟨N[j],i,a.levels[N[j].toNat]'(by omega)-a.levels[i]-qba g m i N[j].toNat⟩ (by rw[e3]at *;unfold qbx;rw[if_neg (by omega),if_pos (by omega),if_pos (by omega),e1,e2])
     have el:(qaE g a N i j).length+1=(qaE g a N i (j+1)).length:=by rw[e];simp
     rw[←e,el]
     exact qaa (nx:=32) (k:=1) (ns:=[]) (ks:=[5,22,21,20,6,15,14,2,3]) [(2,2),(3,3),(0,0),(1,1)] rfl (by simp) (by kernel_rfl)
    ·refine qaH (f:=qbW) (a:=⟨_,_,_⟩) (l:=qaE g a N i j) qgv rfl rfl rfl rfl rfl rfl (by kernel_rfl) (by kernel_rfl) hl1 rfl ?_
     repeat'(first|refine zQ ?_|fail)
     refine⟨hlj,trivial,?_⟩
     have e:=hone ⟨i,N[j],a.levels[i]-a.levels[N[j].toNat]'(by omega)-qba g m i N[j].toNat⟩ (by rw[e3]at *;unfold qbx;rw[if_neg (by omega),if_neg (by omega),if_pos (by omega),e1,e2])
     have el:(qaE g a N i j).length+1=(qaE g a N i (j+1)).length:=by rw[e];simp
     rw[←e,el]
     exact qaa (nx:=32) (k:=1) (ns:=[]) (ks:=[5,22,21,20,6,15,14,2,3]) [(2,2),(3,3),(0,0),(1,1)] rfl (by simp) (by kernel_rfl)
   ·have e:j=N.length:=by omega
    subst e
    repeat'(first|refine zQ ?_|(refine zI ?_;intro hlt)|(refine zC ?_ ?_<;>first|intro h|simp)|(refine zG ?_ ?_<;>first|intro h|simp)|fail)
    rotate_left
    all_goals try exact absurd ‹_› (by omega)
    refine⟨hlt,trivial,?_⟩
    rw[hend]
    exact qaa (nx:=32) (k:=1) (ns:=[]) (ks:=[5,15,14,2,3]) [(2,2),(0,0),(1,1)] rfl (by simp) (by kernel_rfl)
  ·exact absurd hlt (by omega)
 ·have e:i=a.levels.length:=by omega
  subst e
  repeat'(first|refine zQ ?_|(refine zC ?_ ?_<;>first|intro h|simp)|fail)
  ·exact absurd hlt (by omega)
  ·exact qhu rfl rfl rfl rfl
def qcu(s:Site)(b:Grid)(c:Cut):Grid:=⟨b.x,b.y,b.side,b.cols,b.rows,qfq b.levels (qaD s c) c.level⟩
def qbB(s:Site)(b:Grid)(c:Cut):List Nat:=qnf b.levels (qaD s c) c.level
structure OkBed(s:Site)(b:Grid):Prop where
 ok:OkGrid b
 er:qa2 b=0
 al:qbR s.bed b=true
theorem OkBed.len{s:Site}{b:Grid}(hs:OkGrid s.bed)(h:OkBed s b):b.levels.length=s.bed.levels.length:=qpT hs h.ok h.al
theorem qBA{l:List Int}{foot:List Nat}{v:Int}:(qnf l foot v).length≤foot.length:=List.length_filter_le _ _
theorem qz8{α:Type}(l:List α)(j:Nat):(l.take j).length≤l.length:=by rw[List.length_take];omega
theorem qiw(s:Site)(hs:OkGrid s.bed)(b:Grid)(hb:OkBed s b)(c:Cut)(hc:OkCut s c):Contract Tryz.prog 122 [.agg (encSite s),.agg (qag b),.agg (encCut c)] (.ret (.tup [.agg (qag (qcu s b c)),.sl ((qbB s b c).map qcx)])):=by
 obtain⟨ha,hlt,hpos,hle⟩:=qbm hs hc
 have hlen:=hb.len hs
 have hbd:=hb.ok.bds
 have hsm:=hb.ok.small
 have hnd:=qpO ha
 have h1:=qKv b.levels (by rw[hlen];have:=hlt _ (List.getElem_mem hpos);omega) (by omega)
 have h2:=qeG s hs c hc
 have hlt':∀j (hj:j<(qaD s c).length),(qaD s c)[j]<b.levels.length:=fun j hj=>by rw[hlen];exact hlt _ (List.getElem_mem hj)
 have hF:qfm qal 1:=fun _=>⟨rfl,rfl⟩
 show Contract _ _ _ (.ret (.tup [.agg (qag ⟨b.x,b.y,b.side,b.cols,b.rows,qfq b.levels (qaD s c) c.level⟩),.sl ((qnf b.levels (qaD s c) c.level).map qcx)]))
 generalize qaD s c=ft at*
 refine zT mix Tryz.func122 Tryz.ntmps122 Tryz.results122 rfl rfl rfl ?_;simp only[qab,Nat.reduceAdd]
 repeat'(first|((with_reducible apply qdT);rfl;(exact h1);(exact hF);rfl)|refine zQ ?_|refine zF h2 ?_|fail)
 refine qad ft.length (fun j=>⟨[(8,.os 4 0 (qnf b.levels (ft.take j) c.level).length),(19,.int .i64 j),(18,.int .i64 ft.length),(17,.sl (ft.map qcx)),(6,.op 5 0 0),(5,.op 2 0 0),(4,.op 1 0 0)],
  [(4,⟨1,true,(qnf b.levels (ft.take j) c.level).map qcx⟩),(1,⟨6,false,[qu6 b++[.os 3 0 b.levels.length]]⟩),(2,⟨8,true,[encCut c]⟩),(3,⟨1,true,(qfq b.levels (ft.take j) c.level).map qal⟩),(5,⟨6,false,[[.int .i64 0,.int .i64 0,.int .i64 0,.int .i64 0,.int .i64 0,.nilsl]]⟩)],192,52⟩) (fun j=>True) ?_ trivial ?_
 ·rw[show qfq b.levels (ft.take 0) c.level=b.levels from qxD]
  exact qaa (nx:=192) (k:=1) (ns:=[(8,4)]) (ks:=[19,18,17,6,5,4]) [(32,1),(64,2),(256,3),(96,5)] rfl (by simp;rfl) (by kernel_rfl)
 intro j hj _
 have hll:=qaM b.levels (ft.take j) c.level
 by_cases hL:j<ft.length
 ·have hjb:=hlt' j hL
  have hat:=qBy (v:=c.level) hnd hL hjb
  have hgl:(qfq b.levels (ft.take j) c.level)[ft[j]]'(by omega)=lv b.levels ft[j]:=by rw[←qbv (by omega),hat]
  have hcl:=qBA (l:=b.levels) (foot:=ft.take j) (v:=c.level)
  have htl:=qz8 ft j
  repeat'(first|refine zQ ?_|(refine zI ?_;intro hlt)|(refine zC ?_ ?_<;>first|intro h|simp)|(refine zG ?_ ?_<;>first|intro h|simp)|fail)
  all_goals try exact absurd hL (by omega)
  ·refine qaF (f:=qal) (l:=qfq b.levels (ft.take j) c.level) (i:=ft[j]) (a:=c.level) rfl rfl rfl (by omega) rfl rfl rfl rfl (zL rfl) rfl ?_
   repeat'(first|refine zQ ?_|fail)
   refine qaH (f:=qcx) (a:=ft[j]) (l:=qnf b.levels (ft.take j) c.level) qlD rfl rfl rfl rfl rfl rfl (by kernel_rfl) (by kernel_rfl) (by omega) rfl ?_
   repeat'(first|refine zQ ?_|fail)
   have hk0:lv b.levels ft[j]≠30000:=by rw[←hgl];assumption
   have hv0:c.level<lv b.levels ft[j]:=by rw[←hgl];assumption
   refine⟨hL,trivial,?_⟩
   have e1:=qC2 hnd hL hjb hk0 hv0
   have e2:=qC3 (l:=b.levels) (v:=c.level) hL hk0 hv0
   have el:(qnf b.levels (ft.take j) c.level).length+1=(qnf b.levels (ft.take (j+1)) c.level).length:=by rw[e2];simp
   rw[e1,←e2,el]
   exact qaa (nx:=192) (k:=1) (ns:=[]) (ks:=[8,19,18,17,6,5,4]) [(4,4),(1,1),(2,2),(3,3),(5,5)] rfl (by simp) (by kernel_rfl)
  ·have hv0:¬c.level<lv b.levels ft[j]:=by rw[←hgl];assumption
   refine⟨hL,trivial,?_⟩
   rw[qxE hL (.inr hv0),qBz hL (.inr hv0)]
   exact qaa (nx:=192) (k:=1) (ns:=[]) (ks:=[8,19,18,17,6,5,4]) [(4,4),(1,1),(2,2),(3,3),(5,5)] rfl (by simp) (by kernel_rfl)
  ·have hk0:lv b.levels ft[j]=30000:=by rw[←hgl];assumption
   refine⟨hL,trivial,?_⟩
   rw[qxE hL (.inl hk0),qBz hL (.inl hk0)]
   exact qaa (nx:=192) (k:=1) (ns:=[]) (ks:=[8,19,18,17,6,5,4]) [(4,4),(1,1),(2,2),(3,3),(5,5)] rfl (by simp) (by kernel_rfl)
 ·obtain rfl:j=ft.length:=by omega
  repeat'(first|refine zQ ?_|(refine zI ?_;intro hlt)|(refine zC ?_ ?_<;>first|intro h|simp)|(refine zG ?_ ?_<;>first|intro h|simp)|fail)
  all_goals try exact absurd (show ft.length<ft.length by omega) hL
  rw[List.take_length]at*
  exact qcF rfl rfl (qBi (f:=qal) (k:=1) (m:=56) rfl (by rw[hll])) (qdY (f:=qcx) (m:=63) rfl rfl)
def qrs:Outp:=⟨.empty,0,0⟩
def qg5(d:Dred)(n:ByteArray):Int:=qcs (fun o=>decide (o.soil=n)) d.outs
def qcO(d:Dred)(n:ByteArray):Outp:=match d.outs[(qg5 d n).toNat]? with
 |some o=>if 0≤qg5 d n then o else qrs
 |none=>qrs
theorem qft{d:Dred}{n:ByteArray}(h:0≤qg5 d n):∃hk:(qg5 d n).toNat<d.outs.length,qcO d n=d.outs[(qg5 d n).toNat]:=by
 have hk:(qg5 d n).toNat<d.outs.length:=qkE h
 refine⟨hk,?_⟩
 unfold qcO
 rw[List.getElem?_eq_getElem hk]
 exact if_pos h
theorem qs9{d:Dred}{n:ByteArray}(h:qg5 d n<0):qcO d n=qrs:=by
 unfold qcO
 split
 ·rw[if_neg (by omega)]
 ·rfl
theorem qxP(o:Outp)(n:ByteArray):Contract Tryz.prog 252 [.agg (qb3 o),.ptr [.str n]] (.ret (.bool (decide (o.soil=n)))):=by
 refine zT mix Tryz.func252 Tryz.ntmps252 Tryz.results252 rfl rfl rfl ?_;simp only[qab,Nat.reduceAdd]
 repeat'(first|(with_reducible rfl)|refine zQ ?_|((with_reducible apply qaz);rfl;rfl)|refine zE ?_|fail)
theorem qta(d:Dred)(h:d.outs.length<1000000000000)(n:ByteArray):Contract Tryz.prog 192 [.agg (qa4 d),.str n] (.ret (.tup [.agg (qb3 (qcO d n)),.bool (decide (0≤qg5 d n))])):=by
 have h1:=qCR d.outs h 252 [.ptr [.str n]] (fun _ _=>rfl) rfl (fun o=>decide (o.soil=n)) fun o _=>qxP o n
 by_cases h0:0≤qg5 d n
 ·obtain⟨hk,e⟩:=qft h0
  rw[decide_eq_true h0,e]
  obtain⟨k,ek⟩:=Int.eq_ofNat_of_zero_le h0
  have hkk:(qg5 d n).toNat=k:=by omega
  have h1':Contract Tryz.prog 251 [.sl (d.outs.map qb3),.clo (.func 252) [] [.ptr [.str n]]] (.ret (.int .i64 (k:Int))):=by rw[←ek];exact h1
  simp only[hkk]at*
  refine zT mix Tryz.func192 Tryz.ntmps192 Tryz.results192 rfl rfl rfl ?_;simp only[qab,Nat.reduceAdd]
  repeat'(first|refine zQ ?_|refine zF h1' ?_|(refine zI ?_;intro hlt)|fail)
  all_goals first
   |(exfalso;omega)
   |exact qcF rfl rfl rfl rfl
   |trace_state
 ·rw[decide_eq_false h0,qs9 (by omega)]
  have h1':Contract Tryz.prog 251 [.sl (d.outs.map qb3),.clo (.func 252) [] [.ptr [.str n]]] (.ret (.int .i64 (qg5 d n))):=h1
  generalize qg5 d n=q at*
  refine zT mix Tryz.func192 Tryz.ntmps192 Tryz.results192 rfl rfl rfl ?_;simp only[qab,Nat.reduceAdd]
  repeat'(first|refine zQ ?_|refine zF h1' ?_|(refine zI ?_;intro hlt)|(refine zC ?_ ?_<;>first|intro h|simp)|fail)
  all_goals first
   |(exfalso;omega)
   |exact qcF rfl rfl rfl rfl
   |trace_state
theorem qtb(s:Site)(h:s.dreds.length<1000000000000)(c:Cut)(hd:0≤qdb s c.dredger)(ho:(dredOf s c.dredger).outs.length<1000000000000)(n:ByteArray):Contract Tryz.prog 124 [.agg (encSite s),.agg (encCut c),.str n] (.ret (.tup [.agg (qb3 (qcO (dredOf s c.dredger) n)),.bool (decide (0≤qg5 (dredOf s c.dredger) n))])):=by
 have h1:=qch s h c.dredger
 obtain⟨hk,e⟩:=qcp hd
 obtain⟨k,ek⟩:=Int.eq_ofNat_of_zero_le hd
 have hkk:(qdb s c.dredger).toNat=k:=by omega
 rw[ek]at h1
 rw[e]at ho ⊢
 simp only[hkk]at*
 refine zT mix Tryz.func124 Tryz.ntmps124 Tryz.results124 rfl rfl rfl ?_;simp only[qab,Nat.reduceAdd]
 repeat'(first|refine zQ ?_|refine zF h1 ?_|(refine zI ?_;intro hlt)|fail)
 refine qad s.dreds[k].outs.length (fun i=>⟨[(9,.int .i64 i),(8,.sl (s.dreds[k].outs.map qb3)),(6,.op 1 0 0),(2,.str n)],[(1,⟨3,true,[[.str .empty,.int .i64 0,.int .i64 0]]⟩)],64,37⟩) (fun i=>∀j (hj:j<i) (hj':j<s.dreds[k].outs.length),decide (s.dreds[k].outs[j].soil=n)=false) (qaa (nx:=64) (k:=0) (ns:=[]) (ks:=[9,8,6,2]) [(64,1)] rfl (by simp) (by kernel_rfl)) (by omega) ?_
 intro i hi hC
 by_cases hL:i<s.dreds[k].outs.length
 ·by_cases hm:s.dreds[k].outs[i].soil=n
  ·have e1:qg5 s.dreds[k] n=i:=qa1 hL (decide_eq_true hm) fun j hj=>hC j hj (by omega)
   obtain⟨h2,e2⟩:=qft (d:=s.dreds[k]) (n:=n) (by omega)
   have e3:qcO s.dreds[k] n=s.dreds[k].outs[i]:=by
    have e4:(qg5 s.dreds[k] n).toNat=i:=by omega
    rw[e2]
    simp only[e4]
   rw[decide_eq_true (show 0≤qg5 s.dreds[k] n by omega),e3]
   repeat'(first|refine zQ ?_|(refine zI ?_;intro hlt)|(refine zC ?_ ?_<;>first|intro h|simp)|((with_reducible apply qaz);rfl;rfl)|fail)
   all_goals try simp only[Int.toNat_natCast]at*
   all_goals first
    |exact absurd hL (by omega)
    |exact absurd hm (by assumption)
    |exact qcF rfl rfl rfl rfl
    |trace_state
  ·repeat'(first|refine zQ ?_|(refine zI ?_;intro hlt)|(refine zC ?_ ?_<;>first|intro h|simp)|((with_reducible apply qaz);rfl;rfl)|fail)
   all_goals try simp only[Int.toNat_natCast]at*
   all_goals first
    |exact absurd hL (by omega)
    |exact absurd (by assumption) hm
    |(refine⟨by omega,fun j hj hj'=>?_,qaa (nx:=64) (k:=0) (ns:=[]) (ks:=[9,8,6,2]) [(1,1)] rfl (by simp) (by kernel_rfl)⟩
      rcases Nat.lt_succ_iff_lt_or_eq.1 hj with h'|rfl
      ·exact hC j h' hj'
      ·exact decide_eq_false hm)
    |trace_state
 ·have e1:qg5 s.dreds[k] n= -1:=qa8 fun x hx=>by
   obtain⟨j,hj,rfl⟩:=List.mem_iff_getElem.1 hx
   exact hC j (by omega) hj
  rw[qs9 (by omega),decide_eq_false (by omega)]
  repeat'(first|refine zQ ?_|(refine zI ?_;intro hlt)|(refine zC ?_ ?_<;>first|intro h|simp)|((with_reducible apply qaz);rfl;rfl)|fail)
  all_goals first
   |exact absurd hL (by omega)
   |exact qcF rfl rfl rfl rfl
   |trace_state
theorem qL8(a b:Int)(hb:0<b)(ha:0≤a∧a+b≤9223372036854775807):Contract Tryz.prog 193 [.int .i64 a,.int .i64 b] (.ret (.int .i64 ((a+b-1)/b))):=by
 refine zT mix Tryz.func193 Tryz.ntmps193 Tryz.results193 rfl rfl rfl ?_;simp only[qab,Nat.reduceAdd]
 repeat'(first|(with_reducible rfl)|refine zQ ?_|refine zE ?_|fail)
 all_goals first|rfl|trace_state
structure OkDred(d:Dred):Prop where
 n:qj5 d
 l:d.outs.length≤8
 o:∀i (h:i<d.outs.length),(1≤d.outs[i].rate∧d.outs[i].rate≤100000)∧(0≤d.outs[i].wear∧d.outs[i].wear≤1000)
theorem qE9{d:Dred}(h:qfb d=0):OkDred d:=by
 unfold qfb at h
 split at h
 ·omega
 ·split at h
  ·omega
  ·rename_i h2
   split at h
   ·omega
   ·refine⟨Classical.not_not.1 h2,by omega,fun i hi=>?_⟩
    have h3:=qde h i hi
    simp only[qcf,List.getElem?_eq_getElem hi]at h3
    split at h3
    ·omega
    ·split at h3
     ·omega
     ·unfold qxl at h3
      split at h3
      ·assumption
      ·omega
structure OkSite(s:Site):Prop where
 be:qa2 s.bed=0
 gr:qaB s.ground=0
 zo:qdZ s.zones=0
 qu:qeb s.quays=0
 ga:qcg s.gauges=0
 dr:qeE s.ground.soils s.dreds=0
theorem qtc{s:Site}(h:qda s=0):OkSite s:=by
 rw[qfQ]at h
 split at h
 ·contradiction
 ·split at h
  ·contradiction
  ·split at h
   ·contradiction
   ·split at h
    ·contradiction
    ·split at h
     ·contradiction
     ·exact⟨by omega,by omega,by omega,by omega,by omega,h⟩
theorem OkSite.e{s:Site}(h:OkSite s):qda s=0:=by
 rw[qfQ];simp[h.be,h.gr,h.zo,h.qu,h.ga,h.dr]
theorem OkSite.bed{s:Site}(h:OkSite s):OkGrid s.bed:=qf4 h.be
theorem OkSite.dred{s:Site}(h:OkSite s):∀i (hi:i<s.dreds.length),OkDred s.dreds[i]:=fun i hi=>by
 have h1:=h.dr
 unfold qeE at h1
 split at h1
 ·omega
 ·have:=qde h1 i hi
  rw[qiq hi]at this
  split at this
  ·contradiction
  ·rename_i h2;exact qE9 (Classical.not_not.1 h2)
theorem OkSite.dreds{s:Site}(h:OkSite s):s.dreds.length≤6:=by
 have h1:=h.dr
 unfold qeE at h1
 split at h1<;>omega
theorem OkSite.dredOf{s:Site}(h:OkSite s){c:Cut}(hc:OkCut s c):OkDred (dredOf s c.dredger):=by
 obtain⟨hk,e⟩:=qcp hc.dr
 rw[e];exact h.dred _ hk
def upI(a b:Int):Int:=(a+b-1)/b
theorem qlG{a b:Int}(hb:0<b)(ha:0≤a):0≤upI a b∧upI a b≤a:=by
 unfold upI
 refine⟨Int.ediv_nonneg (by omega) (by omega),?_⟩
 rcases Int.lt_or_eq_of_le ha with h|rfl
 ·have h1:(a+b-1)/b<a+1:=Int.ediv_lt_of_lt_mul hb (by
   have:=Int.mul_le_mul_of_nonneg_left (show(1:Int)≤b by omega) (show(0:Int)≤a by omega)
   have e:(a+1)*b=a*b+b:=by rw[Int.add_mul,Int.one_mul]
   omega)
  omega
 ·have:(0+b-1)/b=0:=Int.ediv_eq_zero_of_lt (by omega) (by omega)
  omega
theorem qDa(a b:Int)(hb:0<b): -(-a/b)=upI a b:=by
 unfold upI
 have h1:=Int.mul_ediv_add_emod (-a) b
 have h2:=Int.emod_nonneg (-a) (show b≠0 by omega)
 have h3:=Int.emod_lt_of_pos (-a) hb
 have e:a+b-1=b*(-(-a/b))+(b-1-(-a)%b):=by
  rw[Int.mul_neg];omega
 rw[e,Int.mul_add_ediv_left _ _ (by omega),Int.ediv_eq_zero_of_lt (a:=b-1-(-a)%b) (by omega) (by omega),Int.add_zero]
theorem upc(a b:Int)(hb:0<b)(ha:0≤a∧a+b≤9223372036854775807):Contract Tryz.prog 193 [.int .i64 a,.int .i64 b] (.ret (.int .i64 (upI a b))):=qL8 a b hb ha
theorem qDb(n m:Int)(hm:0<m∧m≤1000000000000)(hn: -9000000000000000000≤n∧n≤9000000000000000000):Contract Tryz.prog 194 [.int .i64 n,.int .i64 m] (.ret (.int .i64 (n/m))):=by
 have hd:=c44 n m ⟨hm.1,by omega⟩
 have e1:=Int.emod_nonneg n (show m≠0 by omega)
 have e2:=Int.emod_lt_of_pos n hm.1
 have e3:n-n%m=m*(n/m):=by have:=Int.mul_ediv_add_emod n m;omega
 refine zT mix Tryz.func194 Tryz.ntmps194 Tryz.results194 rfl rfl rfl ?_;simp only[qab,Nat.reduceAdd]
 repeat'(first|refine zQ ?_|refine zF hd ?_|refine zE ?_|fail)
 all_goals first
  |(rw[e3,Int.mul_tdiv_cancel_left _ (by omega)];done)
  |trace_state
theorem qxQ(a b:Int)(hb:0<b∧b≤1000000000000)(ha:0≤a∧a≤9000000000000000000):Contract Tryz.prog 125 [.int .i64 a,.int .i64 b] (.ret (.int .i64 (upI a b))):=by
 have hf:=qDb (-a) b hb (by omega)
 have h1:=qDa a b hb.1
 have h2:=qlG hb.1 ha.1
 have e0:(0:Int)-a= -a:=by omega
 rw[←e0]at hf h1
 refine zT mix Tryz.func125 Tryz.ntmps125 Tryz.results125 rfl rfl rfl ?_;simp only[qab,Nat.reduceAdd]
 repeat'(first|refine zQ ?_|refine zF hf ?_|refine zE ?_|fail)
 all_goals first|omega|trace_state
end Go.Pv.Soil

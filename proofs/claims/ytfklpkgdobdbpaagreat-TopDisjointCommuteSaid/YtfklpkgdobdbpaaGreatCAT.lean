import Derived.Test.YtfklpkgdobdbpaaGreatCAP
import Derived.Test.YtfklpkgdobdbpaaGreatCAS
/- Part of the proofs over YtfklpkgdobdbpaaGreat: S10, S32, S36, PH16. -/
set_option linter.unusedVariables false
set_option linter.unusedSimpArgs false
set_option linter.unnecessarySimpa false
open Go Go.Proofs Go.Pv
set_option maxHeartbeats 8000000
set_option maxRecDepth 100000
set_option linter.unusedSimpArgs false
set_option linter.unusedVariables false
namespace Go.Pv.Soil
theorem c23(g:Ground)(hl:g.soils.length<1000000000000)(hb:g.borings.length<1000000000000):Contract Tryz.prog 98 [.agg (qam g)] (.ret (.int .i64 (qaI g))):=by
 refine zT mix Tryz.func98 Tryz.ntmps98 Tryz.results98 rfl rfl rfl ?_;simp only[qac,Nat.reduceAdd]
 repeat'(first|((with_reducible apply qaj);rfl;(exact c21 g.soils hl);rfl)|refine zQ ?_|(refine zC ?_ ?_<;>first|intro h|simp)|refine zE ?_|fail)
 ·simp only[qaI];rw[if_pos h]
 ·simp only[qaI];rw[if_neg (by simp[*]),if_pos (by omega)]
 ·simp only[qaI];rw[if_neg (by simp[*]),if_neg (by omega),if_pos (by omega)]
 have hs:qaI g=qha (·.name) (qm3 g.soils) g.borings:=by
  simp only[qaI];rw[if_neg (by simp[*]),if_neg (by omega),if_neg (by omega)]
 rw[hs]
 refine qaf g.borings.length (fun i=>⟨[(4,.int .i64 i),(1,.op 0 0 0)],[(0,⟨2,true,[qam g]⟩)],32,65⟩) (fun i=>∀j,j<i→qce (·.name) (qm3 g.soils) g.borings j=0)
  (qaa (k:=0) (ns:=[]) (ks:=[4,1]) [(0,0)] rfl (by simp) rfl) (by omega) ?_
 intro i hi hC
 repeat'(first|((with_reducible apply qad);rfl;(exact c83 _);rfl)|refine zQ ?_|(refine zI ?_;intro hlt)|(refine zC ?_ ?_<;>first|intro h|simp)|refine zE ?_|fail)
 ·have h2:i<g.borings.length:=by omega
  try simp only[Int.toNat_natCast]at h
  exact qaP h2 hC (by simp only[qce,List.getElem?_eq_getElem h2,h];simp) (by decide)
 ·have h2:i<g.borings.length:=by omega
  try simp only[Int.toNat_natCast]at h
  have hnm:=h
  refine qaf i (fun j=>⟨[(5,.int .i64 j),(4,.int .i64 i),(1,.op 0 0 0)],[(0,⟨2,true,[qam g]⟩)],32,65⟩) (fun j=>∀k (hk:k<j) (hk':k<g.borings.length),¬g.borings[k].name=g.borings[i].name)
   (qaa (k:=0) (ns:=[]) (ks:=[5,4,1]) [(0,0)] rfl (by simp) rfl) (by omega) ?_
  intro j hj hC2
  repeat'(first|((with_reducible apply qaj);rfl;(exact c89 g.soils g.borings[i] hl);rfl)|refine zQ ?_|(refine zI ?_;intro hlt)|(refine zC ?_ ?_<;>first|intro h|simp)|((with_reducible apply qaG);rfl;rfl)|refine zE ?_|fail)
  all_goals try simp only[Int.toNat_natCast]at*
  ·have h3:((g.borings.take i).any fun y=>decide (y.name=g.borings[i].name))=true:=by
    rw[List.any_eq_true]
    exact⟨g.borings[j]'(by omega),List.mem_iff_getElem.2 ⟨j,by simp;omega,by simp⟩,by simpa using h⟩
   exact qaP h2 hC (by simp only[qce,List.getElem?_eq_getElem h2,h3,hnm];simp) (by decide)
  ·refine⟨by omega,fun k hk hk'=>?_,qaa (k:=0) (ns:=[]) (ks:=[5,4,1]) [(0,0)] rfl (by simp) rfl⟩
   rcases Nat.lt_succ_iff_lt_or_eq.1 hk with h'|rfl
   ·exact hC2 k h' hk'
   ·exact h
  all_goals
   have h3:((g.borings.take i).any fun y=>decide (y.name=g.borings[i].name))=false:=by
    rw[List.any_eq_false]
    intro y hy
    obtain⟨k,hk,rfl⟩:=List.mem_iff_getElem.1 hy
    simp only[List.length_take]at hk
    simpa using hC2 k (by omega) (by omega)
  ·exact qaP h2 hC (by simp only[qce,List.getElem?_eq_getElem h2,h3,hnm];simp) h
  ·refine⟨h2,fun k hk=>?_,qaa (k:=0) (ns:=[]) (ks:=[4,1]) [(0,0)] rfl (by simp) rfl⟩
   rcases Nat.lt_succ_iff_lt_or_eq.1 hk with h'|rfl
   ·exact hC k h'
   ·simp only[qce,List.getElem?_eq_getElem h2,h3,hnm];simpa using h
 ·exact(qaB fun j hj=>hC j (by omega)).symm
theorem qId(g:Grid)(h:OkGrid g)(h0:qa8 g=0)(i:Nat)(hi:i<g.levels.length):Contract Tryz.prog 148 [.agg (encGrid g),.int .i64 i] (.ret (.tup [.fr 1 ((qbo g i g.levels.length).map qak),.int .i64 0])):=by
 refine zT mix Tryz.func148 Tryz.ntmps148 Tryz.results148 rfl rfl rfl ?_;simp only[qac,Nat.reduceAdd]
 repeat'(first|((with_reducible (show qan _ (.call _) _ _ _ _));first|((with_reducible apply qaj);rfl;(exact qH9 g h i hi h0);rfl)|((with_reducible apply qdC);rfl;(exact qJO g h i hi);(exact qbw);rfl))|refine zQ ?_|fail)
 exact qbh (qmN rfl (by simp) rfl rfl rfl)
def qm9(g:Ground)(m:Grid):List Int:=(List.range m.levels.length).map (qdu g m)
theorem qvR(g:Ground)(m:Grid):(qm9 g m).length=m.levels.length:=by simp[qm9]
theorem qoM(g:Ground)(m:Grid){i:Nat}(h:i<(qm9 g m).length):(qm9 g m)[i]=qdu g m i:=by simp[qm9]
def qep(g:Ground)(m:Grid):List D:=[.int .i64 m.x,.int .i64 m.y,.int .i64 m.side,.int .i64 m.cols,.int .i64 m.rows,.sl (m.levels.map qak),.sl ((qm9 g m).map qak)]
theorem qIe(gd:Ground)(g:Grid)(h:OkGrid g)(h0:qa8 g=0)(i:Nat)(hi:i<g.levels.length):Contract Tryz.prog 215 [.agg (qep gd g),.int .i64 i] (.ret (.fr 1 ((qbo g i g.levels.length).map qak))):=by
 refine zT mix Tryz.func215 Tryz.ntmps215 Tryz.results215 rfl rfl rfl ?_;simp only[qac,Nat.reduceAdd]
 repeat'(first|((with_reducible apply quN);rfl;(exact qId g h h0 i hi);(exact qbw);rfl;rfl)|refine zQ ?_|fail)
 exact qok rfl rfl rfl
theorem qIf(g:Ground)(hg:OkG g)(m:Grid)(hm:OkGrid m)(a b:Nat)(ha:a<m.levels.length)(hb:b<m.levels.length):Contract Tryz.prog 216 [.agg (qep g m),.int .i64 a,.int .i64 b] (.ret (.int .i64 (qbE g m a b))):=by
 have hl:=qvR g m
 have ea:=qoM g m (i:=a) (by omega)
 have eb:=qoM g m (i:=b) (by omega)
 have ba:=qea hg m a
 have bb:=qea hg m b
 have hs:=hm.bds.2.1
 have h3:=hm.small
 refine zT mix Tryz.func216 Tryz.ntmps216 Tryz.results216 rfl rfl rfl ?_;simp only[qac,Nat.reduceAdd]
 repeat'(first|refine zQ ?_|(refine zI ?_;intro hlt)|refine zE ?_|fail)
 all_goals (simp only[qbE,ea,eb])
theorem qda{g:Grid}(h:OkGrid g){i:Nat}(hi:i<g.levels.length):ptOK (qap g i)=true:=by
 have hb:=h.bds
 have hc:=qc7 h hi
 have he:=h.ends
 have h1:=Int.mul_le_mul_of_nonneg_right (show(i:Int)%g.cols+1≤g.cols by omega) (show 0≤g.side by omega)
 have h2:=Int.mul_le_mul_of_nonneg_right (show(i:Int)/g.cols+1≤g.rows by omega) (show 0≤g.side by omega)
 rw[Int.add_mul,Int.one_mul]at h1 h2
 refine decide_eq_true ?_
 show(-1000000≤g.x+(i:Int)%g.cols*g.side+g.side/2∧g.x+(i:Int)%g.cols*g.side+g.side/2≤1000000)∧(-1000000≤g.y+(i:Int)/g.cols*g.side+g.side/2∧g.y+(i:Int)/g.cols*g.side+g.side/2≤1000000)
 omega
theorem c62(g:Ground)(hg:OkG g)(hs:g.soils.length<1000000000000)(m:Grid)(hm:OkGrid m)(a b:Nat)(ha:a<m.levels.length)(hb:b<m.levels.length):Contract Tryz.prog 137 [.agg (qam g),.agg (encGrid m),.int .i64 a,.int .i64 b] (.ret (.int .i64 (qbE g m a b))):=by
 have ba:=qea hg m a
 have bb:=qea hg m b
 have hsd:=hm.bds.2.1
 have pa:=qda hm ha
 have pb:=qda hm hb
 have h1:Contract Tryz.prog 196 [.agg (qam g),.agg (encPt (qap m a))] (.ret (.int .i64 (qdu g m a))):=qIb g hg hs _ pa
 have h2:Contract Tryz.prog 196 [.agg (qam g),.agg (encPt (qap m b))] (.ret (.int .i64 (qdu g m b))):=qIb g hg hs _ pb
 refine zT mix Tryz.func137 Tryz.ntmps137 Tryz.results137 rfl rfl rfl ?_;simp only[qac,Nat.reduceAdd]
 repeat'(first|((with_reducible (show qan _ (.call _) _ _ _ _));first|((with_reducible apply qb2);rfl;(exact qBX m hm a ha);rfl;(exact zL rfl);rfl)|((with_reducible apply qb2);rfl;(exact qBX m hm b hb);rfl;(exact zL rfl);rfl))|refine zQ ?_|refine zF h1 ?_|refine zF h2 ?_|refine zE ?_|fail)
 all_goals rfl
theorem qCY(g:Grid)(x:Int)(hx:0≤x∧x<g.levels.length)(hl:g.levels.length<1000000000000):Contract Tryz.prog 303 [.agg (encGrid g),.int .i64 x] (.ret (.bool (!decide (lv g.levels x.toNat=30000)))):=by
 obtain⟨k,rfl⟩:=Int.eq_ofNat_of_zero_le hx.1
 have:=qJG g k (by omega)
 rw[←qbu]at this
 exact this
theorem qCZ(g:Grid)(x:Int)(hx:0≤x∧x<g.levels.length)(hl:g.levels.length<1000000000000):Contract Tryz.prog 62 [.agg (encGrid g),.int .i64 x] (.ret (.bool (!decide (lv g.levels x.toNat=30000)))):=by
 obtain⟨k,rfl⟩:=Int.eq_ofNat_of_zero_le hx.1
 have:=c41 g hl k (by omega)
 rw[←qbu]at this
 exact this
theorem qFP(g:Ground)(hg:OkG g)(m:Grid)(hm:OkGrid m)(x y:Int)(hx:0≤x∧x<m.levels.length)(hy:0≤y∧y<m.levels.length):Contract Tryz.prog 216 [.agg (qep g m),.int .i64 x,.int .i64 y] (.ret (.int .i64 (qbE g m x.toNat y.toNat))):=by
 obtain⟨k,rfl⟩:=Int.eq_ofNat_of_zero_le hx.1
 obtain⟨j,rfl⟩:=Int.eq_ofNat_of_zero_le hy.1
 exact qIf g hg m hm k j (by omega) (by omega)
theorem qJQ(g:Ground)(hg:OkG g)(hs:g.soils.length<1000000000000)(m:Grid)(hm:OkGrid m)(x y:Int)(hx:0≤x∧x<m.levels.length)(hy:0≤y∧y<m.levels.length):Contract Tryz.prog 137 [.agg (qam g),.agg (encGrid m),.int .i64 x,.int .i64 y] (.ret (.int .i64 (qbE g m x.toNat y.toNat))):=by
 obtain⟨k,rfl⟩:=Int.eq_ofNat_of_zero_le hx.1
 obtain⟨j,rfl⟩:=Int.eq_ofNat_of_zero_le hy.1
 exact c62 g hg hs m hm k j (by omega) (by omega)
def qaz(g:Ground)(a:Grid)(N:List Int)(i:Nat):Nat→List Steep
 |0=>qcW g a i
 |j+1=>qaz g a N i j++match N[j]? with
  |some b=>qcx g a i b
  |none=>[]
theorem qd3(g:Ground)(a:Grid){N:List Int}(i:Nat){j:Nat}(hj:j<N.length):qaz g a N i (j+1)=qaz g a N i j++qcx g a i N[j]:=by
 simp only[qaz,List.getElem?_eq_getElem hj]
theorem qi9(g:Ground)(a:Grid)(N:List Int)(i:Nat):∀j,j≤N.length→qaz g a N i j=qcW g a i++qdE g a i (N.take j)
 |0,_=>by simp[qaz,qdE]
 |j+1,h=>by
  rw[qd3 g a i (by omega),qi9 g a N i j (by omega),qm8 g a i (by omega),List.append_assoc]
theorem qja(g:Ground)(a:Grid)(i:Nat):qaz g a (qbo a i a.levels.length) i (qbo a i a.levels.length).length=qcW g a (i+1):=by
 rw[qi9 _ _ _ _ _ (Nat.le_refl _),List.take_length,qkR]
theorem qf3(g:Ground)(a:Grid)(N:List Int)(i:Nat):∀j,j≤N.length→(qaz g a N i j).length≤i*a.levels.length+j
 |0,_=>by have:=qgv g a i;simpa[qaz]using this
 |j+1,h=>by
  have h1:=qf3 g a N i j (by omega)
  have h2:=qkS g a i (N[j]'(by omega))
  rw[qd3 g a i (by omega),List.length_append]
  omega
theorem c95(g:Ground)(hg:OkG g)(m:Grid)(hm:OkGrid m)(h0:qa8 m=0)(a:Grid)(ha:OkGrid a)(hla:a.levels.length=m.levels.length)(hnear:∀i n,qbo m i n=qbo a i n)(hal:∀i k,qbE g m i k=qbE g a i k):
  Contract Tryz.prog 278 [.agg (qep g m),.agg (encGrid a)] (.ret (.fr 3 ((qcW g a a.levels.length).map qbH))):=by
 have hs:=ha.small
 refine zT mix Tryz.func278 Tryz.ntmps278 Tryz.results278 rfl rfl rfl ?_;simp only[qac,Nat.reduceAdd]
 repeat'(first|refine zQ ?_|fail)
 refine qaf a.levels.length (fun i=>⟨[(5,.os 2 0 (qcW g a i).length),(15,.int .i64 i),(14,.int .i64 a.levels.length),(2,.op 0 0 0),(3,.op 1 0 0)],[(2,⟨3,true,(qcW g a i).map qbH⟩),(0,⟨7,true,[qep g m]⟩),(1,⟨6,true,[encGrid a]⟩)],32,84⟩) (fun _=>True)
  (qaa (nx:=32) (k:=3) (ns:=[(5,2)]) (ks:=[15,14,2,3]) [(0,0),(32,1)] rfl (by simp;rfl) rfl) trivial ?_
 intro i hi _
 by_cases hlt:i<a.levels.length
 ·have c105i:=qIe g m hm h0 i (by omega)
  rw[hnear,←hla]at c105i
  repeat'(first|((with_reducible apply qdC);rfl;(exact c105i);(exact qbw);rfl)|refine zQ ?_|(refine zC ?_ ?_<;>first|intro h|simp)|fail)
  ·have hNm:∀j (hj:j<(qbo a i a.levels.length).length),0≤(qbo a i a.levels.length)[j]∧(qbo a i a.levels.length)[j]<a.levels.length:=fun j hj=>by
    obtain⟨k,h1,h2,_⟩:=(qeZ a i _ _).1 (List.getElem_mem hj)
    omega
   have hNl:=qeo a i a.levels.length
   have hend:=qja g a i
   have hAl:=qf3 g a (qbo a i a.levels.length) i
   have hsucc:=fun j hj=>qd3 g a (N:=qbo a i a.levels.length) i (j:=j) hj
   have hmul:=Nat.mul_le_mul (show i≤1024 by omega) hs
   generalize qbo a i a.levels.length=N at*
   refine qaf N.length (fun j=>⟨[(5,.os 2 0 (qaz g a N i j).length),(22,.int .i64 j),(21,.int .i64 N.length),(20,.os 3 0 N.length),(6,.int .i64 i),(15,.int .i64 i),(14,.int .i64 a.levels.length),(2,.op 0 0 0),(3,.op 1 0 0)],[(2,⟨3,true,(qaz g a N i j).map qbH⟩),(3,⟨1,true,N.map qak⟩),(0,⟨7,true,[qep g m]⟩),(1,⟨6,true,[encGrid a]⟩)],32,84⟩) (fun _=>True)
    (qaa (nx:=32) (k:=1) (ns:=[]) (ks:=[5,22,21,20,6,15,14,2,3]) [(2,2),(192,3),(0,0),(1,1)] rfl (by simp) (by kernel_rfl)) trivial ?_
   intro j hj _
   by_cases hlj:j<N.length
   ·have hb:=hNm j hlj
    have hl1:(qaz g a N i j).length≤1000000000:=by have:=hAl j hj;omega
    have hnil:qcx g a i N[j]=[]→qaz g a N i (j+1)=qaz g a N i j:=fun h=>by rw[hsucc j hlj,h,List.append_nil]
    have hone:∀s,qcx g a i N[j]=[s]→qaz g a N i (j+1)=qaz g a N i j++[s]:=fun s h=>by rw[hsucc j hlj,h]
    have e1:=qbu hlt
    have e2:lv a.levels N[j].toNat=a.levels[N[j].toNat]'(by omega):=qbu (by omega)
    have b1: -20000≤a.levels[i]∧a.levels[i]≤30000:=by
     have:=ha.rng i hlt
     omega
    have b2: -20000≤a.levels[N[j].toNat]'(by omega)∧a.levels[N[j].toNat]'(by omega)≤30000:=by
     have:=ha.rng N[j].toNat (by omega)
     omega
    have b3:=qhY hg hm i N[j].toNat
    have e3:=hal i N[j].toNat
    have c1:Contract Tryz.prog 303 [.agg (encGrid a),.int .i64 i] (.ret (.bool (!decide (lv a.levels i=30000)))):=qCY a (i:Int) (by omega) (by omega)
    have c2:=qCY a N[j] hb (by omega)
    have c3:Contract Tryz.prog 216 [.agg (qep g m),.int .i64 i,.int .i64 N[j]] (.ret (.int .i64 (qbE g m i N[j].toNat))):=qFP g hg m hm (i:Int) N[j] (by omega) (by omega)
    repeat'(first|refine zQ ?_|refine zF c1 ?_|refine zF c2 ?_|refine zF c3 ?_|(refine zI ?_;intro hlt)|(refine zC ?_ ?_<;>first|intro h|simp)|(refine zG ?_ ?_<;>first|intro h|simp)|fail)
    all_goals try first
     |exact absurd hlj (by omega)
     |(refine⟨hlj,trivial,?_⟩
       rw[hnil (by unfold qcx;(repeat' split)<;>first|rfl|(exfalso;omega))]
       exact qaa (nx:=32) (k:=1) (ns:=[]) (ks:=[5,22,21,20,6,15,14,2,3]) [(2,2),(3,3),(0,0),(1,1)] rfl (by simp) (by kernel_rfl))
    ·refine qaE (f:=qbH) (a:=⟨_,_,_⟩) (l:=qaz g a N i j) qf2 rfl rfl rfl rfl rfl rfl (by kernel_rfl) (by kernel_rfl) hl1 rfl ?_
     repeat'(first|refine zQ ?_|fail)
     refine⟨hlj,trivial,?_⟩
     have e:=hone ⟨N[j],i,a.levels[N[j].toNat]'(by omega)-a.levels[i]-qbE g m i N[j].toNat⟩ (by rw[e3]at *;unfold qcx;rw[if_neg (by omega),if_pos (by omega),if_pos (by omega),e1,e2])
     have el:(qaz g a N i j).length+1=(qaz g a N i (j+1)).length:=by rw[e];simp
     rw[←e,el]
     exact qaa (nx:=32) (k:=1) (ns:=[]) (ks:=[5,22,21,20,6,15,14,2,3]) [(2,2),(3,3),(0,0),(1,1)] rfl (by simp) (by kernel_rfl)
    ·refine qaE (f:=qbH) (a:=⟨_,_,_⟩) (l:=qaz g a N i j) qf2 rfl rfl rfl rfl rfl rfl (by kernel_rfl) (by kernel_rfl) hl1 rfl ?_
     repeat'(first|refine zQ ?_|fail)
     refine⟨hlj,trivial,?_⟩
     have e:=hone ⟨i,N[j],a.levels[i]-a.levels[N[j].toNat]'(by omega)-qbE g m i N[j].toNat⟩ (by rw[e3]at *;unfold qcx;rw[if_neg (by omega),if_neg (by omega),if_pos (by omega),e1,e2])
     have el:(qaz g a N i j).length+1=(qaz g a N i (j+1)).length:=by rw[e];simp
     rw[←e,el]
     exact qaa (nx:=32) (k:=1) (ns:=[]) (ks:=[5,22,21,20,6,15,14,2,3]) [(2,2),(3,3),(0,0),(1,1)] rfl (by simp) (by kernel_rfl)
   ·have e:j=N.length:=by omega
    subst e
    repeat'(first|refine zQ ?_|(refine zI ?_;intro hlt)|(refine zC ?_ ?_<;>first|intro h|simp)|(refine zG ?_ ?_<;>first|intro h|simp)|fail)
    rotate_left
    all_goals try exact absurd ‹_› (by omega)
    refine⟨hlt,trivial,?_⟩
    rw[hend]
    exact qaa (nx:=32) (k:=1) (ns:=[]) (ks:=[5,15,14,2,3]) [(2,2),(0,0),(1,1)] rfl (by simp) (by kernel_rfl)
  ·exact absurd hlt (by omega)
 ·have e:i=a.levels.length:=by omega
  subst e
  repeat'(first|refine zQ ?_|(refine zC ?_ ?_<;>first|intro h|simp)|fail)
  ·exact absurd hlt (by omega)
  ·exact qg5 rfl rfl rfl rfl
end Go.Pv.Soil
namespace Go.Pv.Geo
def qgP(a b p:Pt):Bool:=
 let u:=if b.y<a.y then b else a
 let v:=if b.y<a.y then a else b
 decide ((u.y≤p.y∧p.y<v.y)∧0<crossE u v p)
def upX(a b p:Pt):Bool:=decide (¬(a.x≤p.x↔b.x≤p.x)∧(crossE a b p<0↔a.x<b.x))
theorem qA3{A B:Prop}[Decidable A][Decidable B]:(decide A ^^decide B)=decide (¬(A↔B)):=by
 by_cases h:A<;>by_cases h':B<;>simp[h,h']
def qBY(a p:Pt):Bool:=decide (p.x<a.x∧p.y<a.y)
theorem sg{u v:Int}:(¬0<u∨¬0<v∨0<u*v)∧(¬u<0∨¬0<v∨u*v<0)∧(¬0<u∨¬v<0∨u*v<0)∧(¬u<0∨¬v<0∨0<u*v)∧(¬u=0∨u*v=0)∧(¬v=0∨u*v=0):=by
 refine⟨?_,?_,?_,?_,?_,?_⟩
 ·by_cases h:0<u<;>by_cases h':0<v<;>simp[h,h']
  exact Int.mul_pos h h'
 ·by_cases h:u<0<;>by_cases h':0<v<;>simp[h,h']
  exact Int.mul_neg_of_neg_of_pos h h'
 ·by_cases h:0<u<;>by_cases h':v<0<;>simp[h,h']
  exact Int.mul_neg_of_pos_of_neg h h'
 ·by_cases h:u<0<;>by_cases h':v<0<;>simp[h,h']
  exact Int.mul_pos_of_neg_of_neg h h'
 ·by_cases h:u=0
  ·right;rw[h,Int.zero_mul]
  ·left;exact h
 ·by_cases h:v=0
  ·right;rw[h,Int.mul_zero]
  ·left;exact h
theorem qA4{n:Int}:signE n<0↔n<0:=by unfold signE;(repeat' split)<;>omega
theorem qv2(a b p:Pt):crossE a b p=(a.x-p.x)*(b.y-p.y)-(a.y-p.y)*(b.x-p.x):=by simp only[crossE];grind
theorem qyf{x1 y1 x2 y2 P Q:Int}(hy:¬y2<y1)
  (s1:(¬0<x1∨¬0<y2∨0<P)∧(¬x1<0∨¬0<y2∨P<0)∧(¬0<x1∨¬y2<0∨P<0)∧(¬x1<0∨¬y2<0∨0<P)∧(¬x1=0∨P=0)∧(¬y2=0∨P=0))
  (s2:(¬0<y1∨¬0<x2∨0<Q)∧(¬y1<0∨¬0<x2∨Q<0)∧(¬0<y1∨¬x2<0∨Q<0)∧(¬y1<0∨¬x2<0∨0<Q)∧(¬y1=0∨Q=0)∧(¬x2=0∨Q=0))
  (h:¬(P-Q=0∧(min x1 x2≤0∧0≤max x1 x2)∧min y1 y2≤0∧0≤max y1 y2)):
  (¬((¬(x1≤0↔x2≤0)∧(P-Q<0↔x1<x2))↔((y1≤0∧0<y2)∧0<P-Q)))↔¬((0<x1∧0<y1)↔(0<x2∧0<y2)):=by
 by_cases c1:x1≤0<;>by_cases c2:x2≤0<;>by_cases c3:y1≤0<;>by_cases c4:y2≤0<;>simp only[c1,c2,c3,c4,true_and,and_true,false_and,and_false,iff_true,true_iff,iff_false,false_iff,not_true_eq_false,not_false_eq_true]<;>omega
theorem qyg{x1 y1 x2 y2 P Q:Int}(hy:y2<y1)
  (s1:(¬0<x1∨¬0<y2∨0<P)∧(¬x1<0∨¬0<y2∨P<0)∧(¬0<x1∨¬y2<0∨P<0)∧(¬x1<0∨¬y2<0∨0<P)∧(¬x1=0∨P=0)∧(¬y2=0∨P=0))
  (s2:(¬0<y1∨¬0<x2∨0<Q)∧(¬y1<0∨¬0<x2∨Q<0)∧(¬0<y1∨¬x2<0∨Q<0)∧(¬y1<0∨¬x2<0∨0<Q)∧(¬y1=0∨Q=0)∧(¬x2=0∨Q=0))
  (h:¬(P-Q=0∧(min x1 x2≤0∧0≤max x1 x2)∧min y1 y2≤0∧0≤max y1 y2)):
  (¬((¬(x1≤0↔x2≤0)∧(P-Q<0↔x1<x2))↔((y2≤0∧0<y1)∧0< -(P-Q))))↔¬((0<x1∧0<y1)↔(0<x2∧0<y2)):=by
 by_cases c1:x1≤0<;>by_cases c2:x2≤0<;>by_cases c3:y1≤0<;>by_cases c4:y2≤0<;>simp only[c1,c2,c3,c4,true_and,and_true,false_and,and_false,iff_true,true_iff,iff_false,false_iff,not_true_eq_false,not_false_eq_true]<;>omega
theorem le0{u v:Int}:u-v≤0↔u≤v:=by omega
theorem lt0{u v:Int}:0<u-v↔v<u:=by omega
theorem ltd{u v w:Int}:u-w<v-w↔u<v:=by omega
theorem qyh{a b p:Pt}(h:onE a b p=false):(upX a b p ^^qgP a b p)=(qBY a p ^^qBY b p):=by
 rw[onE,decide_eq_false_iff_not]at h
 have e1:=qv2 a b p
 have e2:crossE b a p= -crossE a b p:=by simp only[crossE];grind
 have s1:=sg (u:=a.x-p.x) (v:=b.y-p.y)
 have s2:=sg (u:=a.y-p.y) (v:=b.x-p.x)
 unfold upX qgP qBY
 simp only[qA3,e2]
 refine decide_eq_decide.2 ?_
 rw[e1]at h ⊢
 generalize (a.x-p.x)*(b.y-p.y)=P at*
 generalize (a.y-p.y)*(b.x-p.x)=Q at*
 by_cases hyy:b.y<a.y
 ·have:=qyg (x1:=a.x-p.x) (y1:=a.y-p.y) (x2:=b.x-p.x) (y2:=b.y-p.y) (P:=P) (Q:=Q) (by omega) s1 s2 (by omega)
  simp only[if_pos hyy,e2,e1]
  simp only[le0,lt0,ltd]at this
  exact this
 ·have:=qyf (x1:=a.x-p.x) (y1:=a.y-p.y) (x2:=b.x-p.x) (y2:=b.y-p.y) (P:=P) (Q:=Q) (by omega) s1 s2 (by omega)
  simp only[if_neg hyy,e1]
  simp only[le0,lt0,ltd]at this ⊢
  exact this
def qhk(f:Nat→Bool):Nat→Bool
 |0=>false
 |i+1=>qhk f i ^^f i
theorem qoQ(f g:Nat→Bool):∀n:Nat,(qhk f n ^^qhk g n)=qhk (fun i=>f i ^^g i) n
 |0=>rfl
 |n+1=>by
  simp only[qhk]
  rw[←qoQ f g n]
  cases qhk f n<;>cases qhk g n<;>cases f n<;>cases g n<;>rfl
theorem qkW{f g:Nat→Bool}:∀{n:Nat},(∀i,i<n→f i=g i)→qhk f n=qhk g n
 |0,_=>rfl
 |n+1,h=>by simp only[qhk];rw[qkW fun i hi=>h i (by omega),h n (by omega)]
theorem qme(g:Nat→Bool):∀n:Nat,qhk (fun i=>g i ^^g (i+1)) n=(g 0 ^^g n)
 |0=>by simp[qhk]
 |n+1=>by
  simp only[qhk]
  rw[qme g n]
  cases g 0<;>cases g n<;>cases g (n+1)<;>rfl
def qne(l:List Pt)(p:Pt):Bool:=(List.range l.length).any fun i=>onE (qae l i) (qae l (i+1)) p
def qrK(l:List Pt)(p:Pt)(n:Nat):Bool:=qhk (fun i=>qgP (qae l i) (qae l (i+1)) p) n
def qtE(l:List Pt)(p:Pt)(n:Nat):Bool:=qhk (fun i=>upX (qae l i) (qae l (i+1)) p) n
theorem qoR{l:List Pt}{p:Pt}{i:Nat}(hi:i<l.length)(h:onE (qae l i) (qae l (i+1)) p=true):qne l p=true:=List.any_eq_true.2 ⟨i,List.mem_range.2 hi,h⟩
theorem qrL{l:List Pt}{p:Pt}(h:∀i,i<l.length→onE (qae l i) (qae l (i+1)) p=false):qne l p=false:=by
 rw[qne,List.any_eq_false]
 intro i hi
 rw[h i (List.mem_range.1 hi)];simp
theorem qyi{l:List Pt}{p:Pt}(h:qne l p=false):qtE l p l.length=qrK l p l.length:=by
 have h':∀i,i<l.length→onE (qae l i) (qae l (i+1)) p=false:=fun i hi=>by
  rw[qne,List.any_eq_false]at h
  simpa using h i (List.mem_range.2 hi)
 have:(qtE l p l.length ^^qrK l p l.length)=false:=by
  unfold qtE qrK
  rw[qoQ,qkW (g:=fun i=>qBY (qae l i) p ^^qBY (qae l (i+1)) p) fun i hi=>qyh (h' i hi),qme (fun i=>qBY (qae l i) p)]
  have:qae l l.length=qae l 0:=by have:=qtl l 0;rwa[Nat.zero_add]at this
  rw[this];simp
 revert this
 cases qtE l p l.length<;>cases qrK l p l.length<;>simp
def qtm(l:List Pt)(p:Pt):Int:=if qne l p=true then 0 else if qrK l p l.length=true then 1 else -1
end Go.Pv.Geo

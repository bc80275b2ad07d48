import Derived.Test.YtfklpkgdobdbpaaGreatCAI
import Derived.Test.YtfklpkgdobdbpaaGreatCAK
/- Part of the proofs over YtfklpkgdobdbpaaGreat: S21, S24, S25, S26, N2, N3, N4, Q1, S27, PH13, Q4. -/
set_option linter.unusedVariables false
set_option linter.unusedSimpArgs false
set_option linter.unnecessarySimpa false
open Go Go.Proofs Go.Pv
set_option maxHeartbeats 8000000
set_option maxRecDepth 100000
set_option linter.unusedSimpArgs false
set_option linter.unusedVariables false
namespace Go.Pv.Soil
def gpE(g:Ground)(p:Pt):Int:=if qaI g≠0 then qaI g else if ptOK p=false then 2 else 0
theorem qxT{g:Ground}{p:Pt}{l:List Int}(h:gpE g p=0):qgM g p l=if(l.any fun n=> !qhp n)=true then 2 else 0:=by
 unfold gpE at h
 unfold qgM
 split at h
 ·omega
 ·rename_i h1
  split at h
  ·omega
  ·rename_i h2
   rw[if_neg h1]
   simp[h2]
structure OkGrid(g:Grid):Prop where
 bds:((-1000000≤g.x∧g.x≤1000000)∧ -1000000≤g.y∧g.y≤1000000)∧(100≤g.side∧g.side≤10000)∧(1≤g.cols∧g.cols≤1024)∧1≤g.rows∧g.rows≤1024
 cells:g.cols*g.rows≤1024
 ends:g.x+g.cols*g.side≤1000000∧g.y+g.rows*g.side≤1000000
 len:(g.levels.length:Int)=g.cols*g.rows
 lvl:∀i (h:i<g.levels.length),g.levels[i]=30000∨qhp g.levels[i]=true
theorem qfx{g:Grid}(h:qa8 g=0):OkGrid g:=by
 unfold qa8 at h
 split at h
 ·omega
 ·rename_i h1
  split at h
  ·omega
  ·split at h
   ·omega
   ·split at h
    ·omega
    ·split at h
     ·omega
     ·rename_i h5
      refine⟨Decidable.not_not.1 h1,by omega,by omega,by omega,fun i hi=>?_⟩
      simp only[List.any_eq_true,not_exists,not_and]at h5
      have:=h5 _ (List.getElem_mem hi)
      simp only[qhe,Bool.and_eq_true,decide_eq_true_eq,Bool.not_eq_true',not_and,Bool.not_eq_false]at this
      by_cases h3:g.levels[i]=30000
      ·exact .inl h3
      ·exact .inr (this h3)
theorem OkGrid.small{g:Grid}(h:OkGrid g):g.levels.length≤1024:=by have:=h.len;have:=h.cells;omega
def qap(g:Grid)(i:Nat):Pt:=⟨g.x+(i:Int)%g.cols*g.side+g.side/2,g.y+(i:Int)/g.cols*g.side+g.side/2⟩
def qAI(g:Grid)(i:Nat):Pt:=⟨g.x+(i:Int)%g.cols*g.side,g.y+(i:Int)/g.cols*g.side⟩
theorem qbx{a b m n:Int}(ha:0≤a∧a≤m)(hb:0≤b∧b≤n):0≤a*b∧a*b≤m*n:=
 ⟨Int.mul_nonneg ha.1 hb.1,Int.mul_le_mul ha.2 hb.2 hb.1 (by omega)⟩
theorem qc7{g:Grid}(h:OkGrid g){i:Nat}(hi:i<g.levels.length):(0≤(i:Int)%g.cols∧(i:Int)%g.cols<g.cols)∧(0≤(i:Int)/g.cols∧(i:Int)/g.cols<g.rows)∧
  (0≤(i:Int)%g.cols*g.side∧(i:Int)%g.cols*g.side≤10240000)∧(0≤(i:Int)/g.cols*g.side∧(i:Int)/g.cols*g.side≤10240000):=by
 have hb:=h.bds
 have h1:0≤(i:Int)%g.cols:=Int.emod_nonneg _ (by omega)
 have h2:(i:Int)%g.cols<g.cols:=Int.emod_lt_of_pos _ (by omega)
 have h3:0≤(i:Int)/g.cols:=Int.ediv_nonneg (by omega) (by omega)
 have h4:(i:Int)/g.cols<g.rows:=Int.ediv_lt_of_lt_mul (by omega) (by have:=h.len;rw[Int.mul_comm];omega)
 have h5:=qbx (a:=(i:Int)%g.cols) (b:=g.side) (m:=1024) (n:=10000) (by omega) (by omega)
 have h6:=qbx (a:=(i:Int)/g.cols) (b:=g.side) (m:=1024) (n:=10000) (by omega) (by omega)
 omega
theorem c60(g:Grid)(hl:g.levels.length<1000000000000)(i:Int):Contract Tryz.prog 67 [.agg (encGrid g),.int .i64 i] (.ret (.bool (decide (0≤i∧i<g.levels.length)))):=by
 refine zT mix Tryz.func67 Tryz.ntmps67 Tryz.results67 rfl rfl rfl ?_;simp only[qac,Nat.reduceAdd]
 repeat'(first|refine zQ ?_|(refine zG ?_ ?_<;>first|intro h|simp)|refine zE ?_|fail)
 ·exact decide_eq_decide.2 (by omega)
 ·exact(decide_eq_false (by omega)).symm
theorem qJG(g:Grid)(i:Nat)(hi:i<g.levels.length):Contract Tryz.prog 303 [.agg (encGrid g),.int .i64 i] (.ret (.bool (!decide (g.levels[i]=30000)))):=by
 refine zT mix Tryz.func303 Tryz.ntmps303 Tryz.results303 rfl rfl rfl ?_;simp only[qac,Nat.reduceAdd]
 repeat'(first|(with_reducible rfl)|refine zQ ?_|(refine zI ?_;intro hlt)|refine zE ?_|fail)
theorem c41(g:Grid)(hl:g.levels.length<1000000000000)(i:Nat)(hi:i<g.levels.length):Contract Tryz.prog 62 [.agg (encGrid g),.int .i64 i] (.ret (.bool (!decide (g.levels[i]=30000)))):=by
 have h60:Contract Tryz.prog 67 [.agg (encGrid g),.int .i64 i] (.ret (.bool true)):=by
  have:=c60 g hl i
  rwa[decide_eq_true (by omega)]at this
 refine zT mix Tryz.func62 Tryz.ntmps62 Tryz.results62 rfl rfl rfl ?_;simp only[qac,Nat.reduceAdd]
 repeat'(first|(with_reducible rfl)|refine zQ ?_|refine zF h60 ?_|(refine zI ?_;intro hlt)|refine zE ?_|fail)
theorem qkG:Tryz.prog.cellsOf 108=2:=by kernel_rfl
theorem qBX(g:Grid)(h:OkGrid g)(i:Nat)(hi:i<g.levels.length):Contract Tryz.prog 64 [.agg (encGrid g),.int .i64 i] (.ret (.agg (encPt (qap g i)))):=by
 have hb:=h.bds
 have hc:=qc7 h hi
 have hs:=h.small
 refine zT mix Tryz.func64 Tryz.ntmps64 Tryz.results64 rfl rfl rfl ?_;simp only[qac,Nat.reduceAdd]
 repeat'(first|refine zQ ?_|refine zE ?_|fail)
 rw[qkG];rfl
theorem qJH(g:Grid)(h:OkGrid g)(i:Nat)(hi:i<g.levels.length):Contract Tryz.prog 297 [.agg (encGrid g),.int .i64 i] (.ret (.agg (encPt (qAI g i)))):=by
 have hb:=h.bds
 have hc:=qc7 h hi
 have hs:=h.small
 refine zT mix Tryz.func297 Tryz.ntmps297 Tryz.results297 rfl rfl rfl ?_;simp only[qac,Nat.reduceAdd]
 repeat'(first|refine zQ ?_|refine zE ?_|fail)
 rw[qkG];rfl
theorem qJI(g:Grid)(h:OkGrid g)(i:Nat)(hi:i<g.levels.length):Contract Tryz.prog 275 [.agg (encGrid g),.int .i64 i] (.ret (.agg (encPt (qap g i)))):=by
 have hb:=h.bds
 have hc:=qc7 h hi
 have hs:=h.small
 have h175:Contract Tryz.prog 297 [.agg (encGrid g),.int .i64 i] (.ret (.agg [.int .i64 (g.x+(i:Int)%g.cols*g.side),.int .i64 (g.y+(i:Int)/g.cols*g.side)])):=qJH g h i hi
 refine zT mix Tryz.func275 Tryz.ntmps275 Tryz.results275 rfl rfl rfl ?_;simp only[qac,Nat.reduceAdd]
 repeat'(first|refine zQ ?_|refine zF h175 ?_|refine zE ?_|fail)
 all_goals (rw[qkG];rfl)
theorem qH9(g:Grid)(h:OkGrid g)(i:Nat)(hi:i<g.levels.length)(h0:qa8 g=0):Contract Tryz.prog 209 [.agg (encGrid g),.int .i64 i] (.ret (.int .i64 0)):=by
 have hs:=h.small
 have h144:=qCT g (by omega)
 rw[h0]at h144
 refine zT mix Tryz.func209 Tryz.ntmps209 Tryz.results209 rfl rfl rfl ?_;simp only[qac,Nat.reduceAdd]
 repeat'(first|((with_reducible apply qad);rfl;(exact qxX _ _ _);rfl)|(with_reducible rfl)|refine zQ ?_|refine zF h144 ?_|(refine zC ?_ ?_<;>first|intro h|simp)|refine zE ?_|fail)
 all_goals (exfalso;omega)
theorem c74(g:Grid)(h:OkGrid g)(i:Nat)(hi:i<g.levels.length)(h0:qa8 g=0):Contract Tryz.prog 244 [.agg (encGrid g),.int .i64 i] (.ret (.tup [.agg (encPt (qap g i)),.int .i64 0])):=by
 have h130:=qH9 g h i hi h0
 have h131:=qJI g h i hi
 refine zT mix Tryz.func244 Tryz.ntmps244 Tryz.results244 rfl rfl rfl ?_;simp only[qac,Nat.reduceAdd]
 repeat'(first|refine zQ ?_|refine zF h130 ?_|refine zF h131 ?_|refine zE ?_|fail)
 all_goals (rw[qkG];rfl)
theorem qEQ(g:Grid)(h:OkGrid g)(i:Nat)(hi:i<g.levels.length)(h0:qa8 g=0):Contract Tryz.prog 250 [.agg (encGrid g),.int .i64 i] (.ret (.agg (encPt (qap g i)))):=by
 have h74:=c74 g h i hi h0
 refine zT mix Tryz.func250 Tryz.ntmps250 Tryz.results250 rfl rfl rfl ?_;simp only[qac,Nat.reduceAdd]
 repeat'(first|refine zQ ?_|refine zF h74 ?_|refine zE ?_|fail)
 all_goals (rw[qkG];rfl)
def qcR:List Int→Int
 |[]=>0
 |x::l=>if x≠0 then x else qcR l
theorem ql4:∀{l:List Int} {i:Nat} (hi:i<l.length),l[i]≠0→(∀j (hj:j<i),l[j]=0)→qcR l=l[i]
 |x::l,0,_,h,_=>by rw[qcR,if_pos (by simpa using h)];rfl
 |x::l,i+1,hi,h,hb=>by
  rw[qcR,if_neg (by simpa using hb 0 (by omega))]
  exact ql4 (l:=l) (by simpa using hi) (by simpa using h) fun j hj=>by simpa using hb (j+1) (by omega)
theorem qi7:∀{l:List Int},(∀j (hj:j<l.length),l[j]=0)→qcR l=0
 |[],_=>rfl
 |x::l,hb=>by
  have h0:x=0:=hb 0 (by simp)
  rw[qcR,if_neg (by simp[h0])]
  exact qi7 fun j hj=>hb (j+1) (by simpa using hj)
def qa3(g:Ground)(l:List Grid):Int:=
 if qaI g≠0 then qaI g else if qcR (l.map qa8)≠0 then qcR (l.map qa8)else match l with
  |a::b::_=>if qbX a b=true then 0 else 10
  |_=>0
theorem qpX{l:List Grid}{i:Nat}(hi:i<l.length)(h:qa8 l[i]≠0)(hb:∀j (hj:j<i) (hj':j<l.length),qa8 l[j]=0):qcR (l.map qa8)=qa8 l[i]:=by
 have:=ql4 (l:=l.map qa8) (i:=i) (by simpa using hi) (by simpa using h) fun j hj=>by simpa using hb j hj (by omega)
 simpa using this
theorem c93(g:Ground)(hs:g.soils.length<1000000000000)(hb:g.borings.length<1000000000000)(l:List Grid)(hll:l.length<1000000000000)(hla:∀x∈l,x.levels.length<1000000000000):Contract Tryz.prog 211 [.agg (qam g),.sl (l.map encGrid)] (.ret (.int .i64 (qa3 g l))):=by
 refine zT mix Tryz.func211 Tryz.ntmps211 Tryz.results211 rfl rfl rfl ?_;simp only[qac,Nat.reduceAdd]
 repeat'(first|((with_reducible apply qaj);rfl;(exact c22 g hs hb);rfl)|refine zQ ?_|(refine zC ?_ ?_<;>first|intro h|simp)|refine zE ?_|fail)
 ·simp[qa3,h]
 have h0:qaI g=0:=by assumption
 refine qaf (l.length) (fun i=>⟨[(16,.int .i64 i),(15,.int .i64 l.length),(14,.sl (l.map encGrid)),(1,.sl (l.map encGrid))],[],32,39⟩) (fun i=>∀j (hj:j<i) (hj':j<l.length),qa8 l[j]=0) (qaa (k:=0) (ns:=[]) (ks:=[16,15,14,1]) [] rfl (by simp) rfl) (by omega) ?_
 intro i hi hC
 repeat'(first|((with_reducible (show qan _ (.call _) _ _ _ _));first|((with_reducible apply qaj);rfl;(exact qCT _ (hla _ (List.getElem_mem _)));rfl)|((with_reducible apply qad);rfl;(exact qJF _ _);rfl))|refine zQ ?_|(refine zI ?_;intro hlt)|(refine zC ?_ ?_<;>first|intro h|simp)|(refine zG ?_ ?_<;>first|intro h|simp)|refine zE ?_|fail)
 ·have h2:i<l.length:=by omega
  have e:=qpX h2 h fun j hj hj'=>hC j hj hj'
  unfold qa3
  rw[if_neg (by simp[h0]),if_pos (by rw[e];exact h),e]
 ·have h2:i<l.length:=by omega
  refine⟨h2,fun j hj hj'=>?_,qaa (k:=0) (ns:=[]) (ks:=[16,15,14,1]) [] rfl (by simp) rfl⟩
  rcases Nat.lt_succ_iff_lt_or_eq.1 hj with h'|rfl
  ·exact hC j h' hj'
  ·exact h
 all_goals
  have e:qcR (l.map qa8)=0:=qi7 fun j hj=>by
   rw[List.getElem_map];exact hC j (by simp at hj;omega) _
  unfold qa3
  rw[if_neg (by simp[h0]),if_neg (by simp[e])]
 ·obtain⟨a,b,r,rfl⟩:∃a b r,l=a::b::r:=by
   match l,hlt with
   |a::b::r,_=>exact⟨a,b,r,rfl⟩
   |[a],h'=>exact absurd h' (by simp)
  have h':qbX a b=false:=h
  simp[h']
 ·obtain⟨a,b,r,rfl⟩:∃a b r,l=a::b::r:=by
   match l,hlt with
   |a::b::r,_=>exact⟨a,b,r,rfl⟩
   |[a],h'=>exact absurd h' (by simp)
  have h':qbX a b=true:=h
  simp[h']
 ·match l,h with
  |[],_=>rfl
  |[a],_=>rfl
  |a::b::r,h=>exact absurd h (by simp;omega)
theorem qFM(n:Int)(h: -1000000000000000≤n∧n≤1000000000000000):Contract Tryz.prog 136 [.int .i64 n] (.ret (.int .i64 n.natAbs)):=by
 refine zT mix Tryz.func136 Tryz.ntmps136 Tryz.results136 rfl rfl rfl ?_;simp only[qac,Nat.reduceAdd]
 repeat'(first|refine zQ ?_|(refine zC ?_ ?_<;>first|intro h|simp)|refine zE ?_|fail)
 all_goals (simp at *;omega)
theorem c79(a b:List Int)(ha:a.length<1000000000000):Contract Tryz.prog 38 [.sl (a.map qak),.sl (b.map qak)] (.ret (.bool (decide (a=b)))):=by
 refine zT mix Tryz.func38 Tryz.ntmps38 Tryz.results38 rfl rfl rfl ?_;simp only[qac,Nat.reduceAdd]
 repeat'(first|refine zQ ?_|(refine zC ?_ ?_<;>first|intro h|simp)|refine zE ?_|fail)
 ·symm;simp only[decide_eq_false_iff_not];rintro rfl;exact h rfl
 ·have hl:a.length=b.length:=by omega
  refine qaf a.length (fun i=>⟨[(5,.int .i64 i),(0,.sl (a.map qak)),(1,.sl (b.map qak))],[],0,26⟩) (fun i=>a.take i=b.take i) (qaa (k:=0) (ns:=[]) (ks:=[5,0,1]) [] rfl (by simp) rfl) rfl ?_
  intro i hi hC
  repeat'(first|refine zQ ?_|(refine zI ?_;intro hlt)|(refine zC ?_ ?_<;>first|intro h|simp)|refine zE ?_|fail)
  ·try simp only[Int.toNat_natCast]at h
   symm
   simp only[decide_eq_false_iff_not]
   rintro rfl
   exact h rfl
  ·have h2:i<a.length:=by omega
   have h3:i<b.length:=by omega
   try simp only[Int.toNat_natCast]at h
   refine⟨by omega,?_,qaa (k:=0) (ns:=[]) (ks:=[5,0,1]) [] rfl (by simp) rfl⟩
   rw[List.take_succ_eq_append_getElem h2,List.take_succ_eq_append_getElem h3,hC,h]
  ·have e:i=a.length:=by omega
   subst e
   rw[List.take_of_length_le (Nat.le_refl _),List.take_of_length_le (by omega)]at hC
   simp[hC]
def qvh(a b:Grid):Bool:=qbX a b&&decide (a.levels=b.levels)
theorem c32(a b:Grid)(ha:a.levels.length<1000000000000):Contract Tryz.prog 49 [.agg (encGrid a),.agg (encGrid b)] (.ret (.bool (qvh a b))):=by
 refine zT mix Tryz.func49 Tryz.ntmps49 Tryz.results49 rfl rfl rfl ?_;simp only[qac,Nat.reduceAdd]
 repeat'(first|((with_reducible apply qad);rfl;(exact c79 _ _ ha);rfl)|refine zQ ?_|(refine zG ?_ ?_<;>first|intro h|simp)|refine zE ?_|fail)
 all_goals simp[qvh,qbX, *]
def qdr(g:Grid)(i k:Nat):Bool:=decide (((i:Int)%g.cols-(k:Int)%g.cols).natAbs+((i:Int)/g.cols-(k:Int)/g.cols).natAbs=1)
theorem c61(g:Grid)(h:OkGrid g)(i k:Nat)(hi:i<g.levels.length)(hk:k<g.levels.length):Contract Tryz.prog 153 [.agg (encGrid g),.int .i64 i,.int .i64 k] (.ret (.bool (qdr g i k))):=by
 have hb:=h.bds
 have hc:=qc7 h hi
 have hd:=qc7 h hk
 have hs:=h.small
 have e1:=qFM ((i:Int)%g.cols-(k:Int)%g.cols) (by omega)
 have e2:=qFM ((i:Int)/g.cols-(k:Int)/g.cols) (by omega)
 refine zT mix Tryz.func153 Tryz.ntmps153 Tryz.results153 rfl rfl rfl ?_;simp only[qac,Nat.reduceAdd]
 repeat'(first|refine zQ ?_|refine zF e1 ?_|refine zF e2 ?_|refine zE ?_|fail)
 all_goals exact decide_eq_decide.2 (by omega)
structure Mark where
 minute:Int
 level:Int
structure Gauge where
 name:ByteArray
 x:Int
 err:Int
 marks:List Mark
structure qfD where
 name:ByteArray
 kind:Int
 corners:List Geo.Pt
structure Outp where
 soil:ByteArray
 rate:Int
 wear:Int
structure Dred where
 name:ByteArray
 kind:Int
 depth:Int
 across:Int
 along:Int
 bite:Int
 hour:Int
 outs:List Outp
structure Cut where
 name:ByteArray
 dredger:ByteArray
 col:Int
 row:Int
 cols:Int
 rows:Int
 level:Int
 start:Int
structure Site where
 bed:Grid
 ground:Ground
 zones:List qfD
 quays:List Quay
 gauges:List Gauge
 dreds:List Dred
def qeK(m:Mark):List D:=[.int .i64 m.minute,.int .i64 m.level]
def qat(g:Gauge):List D:=[.str g.name,.int .i64 g.x,.int .i64 g.err,.sl (g.marks.map qeK)]
def qbv(z:qfD):List D:=[.str z.name,.int .i64 z.kind,.sl (z.corners.map Geo.encPt)]
def qbN(o:Outp):List D:=[.str o.soil,.int .i64 o.rate,.int .i64 o.wear]
def encDred(d:Dred):List D:=[.str d.name,.int .i64 d.kind,.int .i64 d.depth,.int .i64 d.across,.int .i64 d.along,.int .i64 d.bite,.int .i64 d.hour,.sl (d.outs.map qbN)]
def encCut(c:Cut):List D:=[.str c.name,.str c.dredger,.int .i64 c.col,.int .i64 c.row,.int .i64 c.cols,.int .i64 c.rows,.int .i64 c.level,.int .i64 c.start]
def encSite(s:Site):List D:=[.int .i64 s.bed.x,.int .i64 s.bed.y,.int .i64 s.bed.side,.int .i64 s.bed.cols,.int .i64 s.bed.rows,.sl (s.bed.levels.map qak),.sl (s.ground.soils.map qaC),.sl (s.ground.borings.map qbs),
 .sl (s.zones.map qbv),.sl (s.quays.map qcf),.sl (s.gauges.map qat),.sl (s.dreds.map encDred)]
theorem qaq{n:Nat}{f:Nat→Int}{i:Nat}{e:Int}(hi:i<n)(hC:∀j,j<i→f j=0)(h:f i=e)(he:e≠0):e=qct n f:=by
 subst h
 exact(qhL hi hC he).symm
theorem qaJ{f:Nat→Int}{i:Nat}(hC:∀j,j<i→f j=0)(h:f i=0):∀j,j<i+1→f j=0:=fun j hj=>by
 rcases Nat.lt_succ_iff_lt_or_eq.1 hj with h'|rfl
 ·exact hC j h'
 ·exact h
def qeC(m:Mark):Bool:=decide ((0≤m.minute∧m.minute≤1000000)∧(-20000≤m.level∧m.level≤20000))
def qm4(l:List Mark)(i:Nat):Int:=match l[i]? with
 |none=>0
 |some m=>if qeC m=false then 2 else if 0<i∧m.minute≤((l[i-1]?).map (·.minute)).getD 0 then 9 else 0
def qnC(g:Gauge):Int:=if ¬((-1000000≤g.x∧g.x≤1000000)∧(0≤g.err∧g.err≤1000))then 2 else if 400<g.marks.length then 8 else qct g.marks.length (qm4 g.marks)
def qvq(l:List Gauge)(i:Nat):Int:=match l[i]? with
 |none=>0
 |some g=>if qaS g.name=false then 4 else if((l.take i).any fun h=>decide (h.name=g.name))=true then 5 else if qnC g≠0 then qnC g else if 0<i∧g.x≤((l[i-1]?).map (·.x)).getD 0 then 9 else 0
def qb3(l:List Gauge):Int:=if 6<l.length then 8 else qct l.length (qvq l)
def qvr(o:Outp):Int:=if(1≤o.rate∧o.rate≤100000)∧(0≤o.wear∧o.wear≤1000)then 0 else 2
def qjq(d:Dred):Prop:=(0≤d.kind∧d.kind≤2)∧(1≤d.depth∧d.depth≤10000)∧(1≤d.bite∧d.bite≤10000)∧(1≤d.across∧d.across≤100)∧(1≤d.along∧d.along≤100)∧(0≤d.hour∧d.hour≤1000000)
instance (d:Dred):Decidable (qjq d):=inferInstanceAs (Decidable (_∧_))
def qet(d:Dred):Int:=if qaS d.name=false then 4 else if ¬qjq d then 2 else if 8<d.outs.length then 8 else qha (·.soil) qvr d.outs
def qdT(l:List qfD):Int:=if 10<l.length then 8 else qha (·.name) (fun z=>Geo.polyE z.corners) l
def qkH(l:List Quay)(i:Nat):Int:=match l[i]? with
 |none=>0
 |some q=>if qeI q≠0 then qeI q else if((l.take i).any fun h=>decide (h.name=q.name))=true then 5 else 0
def qdU(l:List Quay):Int:=if 5<l.length then 8 else qct l.length (qkH l)
def qlo(soils:List Soil)(l:List Dred)(i:Nat):Int:=match l[i]? with
 |none=>0
 |some d=>if qet d≠0 then qet d else if((l.take i).any fun h=>decide (h.name=d.name))=true then 5 else if(d.outs.any fun o=>decide (qa9 soils o.soil<0))=true then 6 else 0
def qen(soils:List Soil)(l:List Dred):Int:=if 6<l.length then 8 else qct l.length (qlo soils l)
def qfn(s:Site):Int:=if qa8 s.bed≠0 then qa8 s.bed else if qaI s.ground≠0 then qaI s.ground else if qdT s.zones≠0 then qdT s.zones else if qdU s.quays≠0 then qdU s.quays else if qb3 s.gauges≠0 then qb3 s.gauges else qen s.ground.soils s.dreds
def qcT(s:Site)(n:ByteArray):Int:=qci (fun d=>decide (d.name=n)) s.dreds
def qdV(s:Site)(c:Cut):Int:=if qcT s c.dredger<0 then 6 else if ¬(qhp c.level=true∧(0≤c.start∧c.start≤1000000))then 2 else
 if ¬((0≤c.col∧c.col≤s.bed.cols-1)∧(0≤c.row∧c.row≤s.bed.rows-1)∧(1≤c.cols∧c.cols≤s.bed.cols-c.col)∧(1≤c.rows∧c.rows≤s.bed.rows-c.row))then 10 else 0
def qlp(s:Site)(l:List Cut):Int:=if 40<l.length then 8 else qha (·.name) (qdV s) l
def qde(s:Site)(l:List Cut):Int:=if qfn s≠0 then qfn s else qlp s l
def onE(s:Site)(b:Grid)(c:Cut):Int:=if qde s [c]≠0 then qde s [c]else if qa8 b≠0 then qa8 b else if qbX s.bed b=true then 0 else 10
instance qJJ:TMap Tryz.prog 144 .string (.bool false):=⟨⟨9,4,by kernel_rfl,by kernel_rfl,by kernel_rfl⟩⟩
instance qJK:TMap Tryz.prog 266 (.int .i64) (.bool false):=⟨⟨3,4,by kernel_rfl,by kernel_rfl,by kernel_rfl⟩⟩
theorem qvs(n lo hi:Int):Contract Tryz.prog 158 [.int .i64 n,.ptr [.int .i64 lo],.ptr [.int .i64 hi]] (.ret (.bool (decide (n<lo∨hi<n)))):=by
 refine zT mix Tryz.func158 Tryz.ntmps158 Tryz.results158 rfl rfl rfl ?_;simp only[qac,Nat.reduceAdd]
 repeat'(first|refine zQ ?_|(refine zG ?_ ?_<;>first|intro h|simp)|refine zE ?_|fail)
 ·exact decide_eq_decide.2 (by omega)
 ·exact(decide_eq_true (.inl h)).symm
theorem qrh(lo hi:Int)(l:List Int)(hl:l.length<1000000000000):Contract Tryz.prog 82 [.int .i64 lo,.int .i64 hi,.sl (l.map qak)] (.ret (.bool (qBW lo hi l))):=by
 refine zT mix Tryz.func82 Tryz.ntmps82 Tryz.results82 rfl rfl rfl ?_;simp only[qac,Nat.reduceAdd]
 repeat'(first|refine zQ ?_|fail)
 refine qad (args':=[.sl (l.map qak),.clo (.func 158) [] [.ptr [.int .i64 lo],.ptr [.int .i64 hi]]]) rfl (qAH l hl 158 _ (fun _ _=>rfl) rfl (fun n=>decide (n<lo∨hi<n)) fun x _=>qvs x lo hi) rfl ?_
 repeat'(first|refine zA ?_|refine zE ?_|fail)
 rfl
theorem qlq(lo hi n:Int):Contract Tryz.prog 82 [.int .i64 lo,.int .i64 hi,.sl [[.int .i64 n]]] (.ret (.bool (decide (lo≤n∧n≤hi)))):=qCR lo hi n▸qrh lo hi [n] (by simp)
theorem qFN(lo hi n m:Int):Contract Tryz.prog 82 [.int .i64 lo,.int .i64 hi,.sl [[.int .i64 n],[.int .i64 m]]] (.ret (.bool (decide ((lo≤n∧n≤hi)∧(lo≤m∧m≤hi))))):=qCS lo hi n m▸qrh lo hi [n,m] (by simp)
theorem qri(c:Int):Contract Tryz.prog 156 [.int .u8 c] (.ret (.bool (qfw c))):=by
 refine zT mix Tryz.func156 Tryz.ntmps156 Tryz.results156 rfl rfl rfl ?_;simp only[qac,Nat.reduceAdd]
 repeat'(first|refine zQ ?_|(refine zG ?_ ?_<;>first|intro h|simp)|refine zE ?_|fail)
 all_goals (simp only[qfw];first|(symm;exact decide_eq_true (by omega))|(symm;exact decide_eq_false (by omega))|(refine decide_eq_decide.2 ?_;omega)|trace_state)
theorem qFO{i:Nat}{c:Int}(h:qfw c=false)(h1:¬c=45)(h2:c<48∨57<c):qjp i c=false:=by
 rw[qjp,h,decide_eq_false (by omega:¬(c=45∨(48≤c∧c≤57)))]
 simp
theorem qJL{i:Nat}{c:Int}(h:qfw c=true):qjp i c=true:=by rw[qjp,h];rfl
theorem qJM{i:Nat}{c:Int}(hi:i≠0)(h:c=45∨(48≤c∧c≤57)):qjp i c=true:=by rw[qjp,decide_eq_true hi,decide_eq_true h];simp
theorem qox(s:ByteArray):Contract Tryz.prog 81 [.str s] (.ret (.bool (qaS s))):=by
 refine zT mix Tryz.func81 Tryz.ntmps81 Tryz.results81 rfl rfl rfl ?_;simp only[qac,Nat.reduceAdd]
 repeat'(first|((with_reducible apply qad);rfl;(exact qri _);rfl)|refine zQ ?_|(refine zC ?_ ?_<;>first|intro h|simp)|(refine zG ?_ ?_<;>first|intro h|simp)|refine zE ?_|fail)
 all_goals try(exact qcQ (by omega))
 ·exact qd9 (i:=0) (by omega) (by rw[qjp,show qfw (qdf s 0)=false from h];rfl)
 have hl0:qfw (qdf s 0)=true:=h
 refine qaf s.size (fun i=>⟨[(21,.int .i64 i),(20,.int .i64 s.size),(0,.str s)],[],32,43⟩) (fun i=>∀j,j<i→qjp j (qdf s j)=true) (qaa (nx:=32) (k:=0) (ns:=[]) (ks:=[21,20,0]) [] rfl (by simp) (by kernel_rfl)) (by omega) ?_
 intro i hi hC
 have hch:qfw (qdf s i)=false→i≠0:=fun hn h00=>by subst h00;rw[hl0]at hn;cases hn
 repeat'(first|((with_reducible apply qad);rfl;(exact qri _);rfl)|refine zQ ?_|(refine zC ?_ ?_<;>first|intro h|simp)|(refine zG ?_ ?_<;>first|intro h|simp)|refine zE ?_|fail)
 all_goals try simp only[Int.toNat_natCast]at*
 all_goals first
  |exact qgq (by omega) (by omega) fun j hj=>hC j (by omega)
  |exact qd9 (i:=i) (by omega) (qFO (by assumption) (by assumption) (by omega))
  |(refine⟨by omega,qeX hC (qJL (by assumption)),qaa (nx:=32) (k:=0) (ns:=[]) (ks:=[21,20,0]) [] rfl (by simp) (by kernel_rfl)⟩)
  |(refine⟨by omega,qeX hC (qJM (hch (by assumption)) (by omega)),qaa (nx:=32) (k:=0) (ns:=[]) (ks:=[21,20,0]) [] rfl (by simp) (by kernel_rfl)⟩)
  |trace_state
theorem qAK(l:List Outp)(hl:l.length<1000000000000)(g:FuncId)(ys:List D)(hst:qlk ys)(hpu:qbF ys=true)(p:Outp→Bool)(hf:∀x∈l,Contract Tryz.prog g (.agg (qbN x)::ys) (.ret (.bool (p x)))):
  Contract Tryz.prog 251 [.sl (l.map qbN),.clo (.func g) [] ys] (.ret (.int .i64 (qci p l))):=by
 refine zT mix Tryz.func251 Tryz.ntmps251 Tryz.results251 rfl rfl rfl ?_;simp only[qac,Nat.reduceAdd]
 repeat'(first|refine zQ ?_|fail)
 have e8:∀i:Nat,(⟨[(8,.int .i64 i),(7,.int .i64 l.length),(0,.sl (l.map qbN)),(1,.clo (.func g) [] (qgI [] ys))],[],0,19⟩:St)=⟨[(8,.int .i64 i),(7,.int .i64 l.length),(0,.sl (l.map qbN)),(1,.clo (.func g) [] ys)],[],0,19⟩:=fun i=>by rw[qbr hpu]
 refine qaf l.length (fun i=>⟨[(8,.int .i64 i),(7,.int .i64 l.length),(0,.sl (l.map qbN)),(1,.clo (.func g) [] ys)],[],0,19⟩) (fun i=>∀j (hj:j<i) (hj':j<l.length),p l[j]=false) (qaa (k:=0) (ns:=[]) (ks:=[8,7,0,1]) [] rfl (by simp) (e8 _)) (by omega) ?_
 intro i hi hC
 repeat'(first|refine zQ ?_|(refine zI ?_;intro hlt)|(refine zC ?_ ?_<;>first|intro h|simp)|refine zE ?_|fail)
 ·refine qaW (d1:=.agg (qbN l[i])) rfl rfl hst (hf l[i] (List.getElem_mem _)) rfl ?_
  repeat'(first|refine zQ ?_|(refine zC ?_ ?_<;>first|intro h|simp)|refine zE ?_|fail)
  ·have h2:i<l.length:=by omega
   exact(qaY h2 h fun j hj=>hC j hj (by omega)).symm
  ·have h2:i<l.length:=by omega
   refine⟨by omega,fun j hj hj'=>?_,qaa (k:=0) (ns:=[]) (ks:=[8,7,0,1]) [] rfl (by simp) (e8 _)⟩
   rcases Nat.lt_succ_iff_lt_or_eq.1 hj with h'|rfl
   ·exact hC j h' hj'
   ·exact h
 ·refine(qa7 fun x hx=>?_).symm
  obtain⟨j,hj,rfl⟩:=List.mem_iff_getElem.1 hx
  exact hC j (by omega) hj
theorem qx1(l:List Dred)(hl:l.length<1000000000000)(g:FuncId)(ys:List D)(hst:qlk ys)(hpu:qbF ys=true)(p:Dred→Bool)(hf:∀x∈l,Contract Tryz.prog g (.agg (encDred x)::ys) (.ret (.bool (p x)))):
  Contract Tryz.prog 239 [.sl (l.map encDred),.clo (.func g) [] ys] (.ret (.int .i64 (qci p l))):=by
 refine zT mix Tryz.func239 Tryz.ntmps239 Tryz.results239 rfl rfl rfl ?_;simp only[qac,Nat.reduceAdd]
 repeat'(first|refine zQ ?_|fail)
 have e8:∀i:Nat,(⟨[(8,.int .i64 i),(7,.int .i64 l.length),(0,.sl (l.map encDred)),(1,.clo (.func g) [] (qgI [] ys))],[],0,19⟩:St)=⟨[(8,.int .i64 i),(7,.int .i64 l.length),(0,.sl (l.map encDred)),(1,.clo (.func g) [] ys)],[],0,19⟩:=fun i=>by rw[qbr hpu]
 refine qaf l.length (fun i=>⟨[(8,.int .i64 i),(7,.int .i64 l.length),(0,.sl (l.map encDred)),(1,.clo (.func g) [] ys)],[],0,19⟩) (fun i=>∀j (hj:j<i) (hj':j<l.length),p l[j]=false) (qaa (k:=0) (ns:=[]) (ks:=[8,7,0,1]) [] rfl (by simp) (e8 _)) (by omega) ?_
 intro i hi hC
 repeat'(first|refine zQ ?_|(refine zI ?_;intro hlt)|(refine zC ?_ ?_<;>first|intro h|simp)|refine zE ?_|fail)
 ·refine qaW (d1:=.agg (encDred l[i])) rfl rfl hst (hf l[i] (List.getElem_mem _)) rfl ?_
  repeat'(first|refine zQ ?_|(refine zC ?_ ?_<;>first|intro h|simp)|refine zE ?_|fail)
  ·have h2:i<l.length:=by omega
   exact(qaY h2 h fun j hj=>hC j hj (by omega)).symm
  ·have h2:i<l.length:=by omega
   refine⟨by omega,fun j hj hj'=>?_,qaa (k:=0) (ns:=[]) (ks:=[8,7,0,1]) [] rfl (by simp) (e8 _)⟩
   rcases Nat.lt_succ_iff_lt_or_eq.1 hj with h'|rfl
   ·exact hC j h' hj'
   ·exact h
 ·refine(qa7 fun x hx=>?_).symm
  obtain⟨j,hj,rfl⟩:=List.mem_iff_getElem.1 hx
  exact hC j (by omega) hj
theorem qAL(l:List Gauge)(hl:l.length<1000000000000)(g:FuncId)(ys:List D)(hst:qlk ys)(hpu:qbF ys=true)(p:Gauge→Bool)(hf:∀x∈l,Contract Tryz.prog g (.agg (qat x)::ys) (.ret (.bool (p x)))):
  Contract Tryz.prog 230 [.sl (l.map qat),.clo (.func g) [] ys] (.ret (.int .i64 (qci p l))):=by
 refine zT mix Tryz.func230 Tryz.ntmps230 Tryz.results230 rfl rfl rfl ?_;simp only[qac,Nat.reduceAdd]
 repeat'(first|refine zQ ?_|fail)
 have e8:∀i:Nat,(⟨[(8,.int .i64 i),(7,.int .i64 l.length),(0,.sl (l.map qat)),(1,.clo (.func g) [] (qgI [] ys))],[],0,19⟩:St)=⟨[(8,.int .i64 i),(7,.int .i64 l.length),(0,.sl (l.map qat)),(1,.clo (.func g) [] ys)],[],0,19⟩:=fun i=>by rw[qbr hpu]
 refine qaf l.length (fun i=>⟨[(8,.int .i64 i),(7,.int .i64 l.length),(0,.sl (l.map qat)),(1,.clo (.func g) [] ys)],[],0,19⟩) (fun i=>∀j (hj:j<i) (hj':j<l.length),p l[j]=false) (qaa (k:=0) (ns:=[]) (ks:=[8,7,0,1]) [] rfl (by simp) (e8 _)) (by omega) ?_
 intro i hi hC
 repeat'(first|refine zQ ?_|(refine zI ?_;intro hlt)|(refine zC ?_ ?_<;>first|intro h|simp)|refine zE ?_|fail)
 ·refine qaW (d1:=.agg (qat l[i])) rfl rfl hst (hf l[i] (List.getElem_mem _)) rfl ?_
  repeat'(first|refine zQ ?_|(refine zC ?_ ?_<;>first|intro h|simp)|refine zE ?_|fail)
  ·have h2:i<l.length:=by omega
   exact(qaY h2 h fun j hj=>hC j hj (by omega)).symm
  ·have h2:i<l.length:=by omega
   refine⟨by omega,fun j hj hj'=>?_,qaa (k:=0) (ns:=[]) (ks:=[8,7,0,1]) [] rfl (by simp) (e8 _)⟩
   rcases Nat.lt_succ_iff_lt_or_eq.1 hj with h'|rfl
   ·exact hC j h' hj'
   ·exact h
 ·refine(qa7 fun x hx=>?_).symm
  obtain⟨j,hj,rfl⟩:=List.mem_iff_getElem.1 hx
  exact hC j (by omega) hj
theorem qAM(l:List Gauge)(hl:l.length<1000000000000)(g:FuncId)(ys:List D)(hst:qlk ys)(hpu:qbF ys=true)(p:Gauge→Bool)(hf:∀x∈l,Contract Tryz.prog g (.agg (qat x)::ys) (.ret (.bool (p x)))):
  Contract Tryz.prog 169 [.sl (l.map qat),.clo (.func g) [] ys] (.ret (.bool (l.any p))):=by
 refine zT mix Tryz.func169 Tryz.ntmps169 Tryz.results169 rfl rfl rfl ?_;simp only[qac,Nat.reduceAdd]
 repeat'(first|refine zQ ?_|fail)
 refine qaj (args':=[.sl (l.map qat),.clo (.func g) [] ys]) ?_ (qAL l hl g ys hst hpu p hf) rfl ?_
 ·have e:=hst (lkH []) 45
  simp only[List.map_cons,List.map_nil,qab,lkE,qbQ,pur,Option.bind_some,Option.map_some,Nat.reduceEqDiff,if_true,if_false,e]
 repeat'(first|refine zA ?_|refine zE ?_|fail)
 exact qcI
theorem qx2(l:List qfD)(hl:l.length<1000000000000)(g:FuncId)(ys:List D)(hst:qlk ys)(hpu:qbF ys=true)(p:qfD→Bool)(hf:∀x∈l,Contract Tryz.prog g (.agg (qbv x)::ys) (.ret (.bool (p x)))):
  Contract Tryz.prog 143 [.sl (l.map qbv),.clo (.func g) [] ys] (.ret (.int .i64 (qci p l))):=by
 refine zT mix Tryz.func143 Tryz.ntmps143 Tryz.results143 rfl rfl rfl ?_;simp only[qac,Nat.reduceAdd]
 repeat'(first|refine zQ ?_|fail)
 have e8:∀i:Nat,(⟨[(8,.int .i64 i),(7,.int .i64 l.length),(0,.sl (l.map qbv)),(1,.clo (.func g) [] (qgI [] ys))],[],0,19⟩:St)=⟨[(8,.int .i64 i),(7,.int .i64 l.length),(0,.sl (l.map qbv)),(1,.clo (.func g) [] ys)],[],0,19⟩:=fun i=>by rw[qbr hpu]
 refine qaf l.length (fun i=>⟨[(8,.int .i64 i),(7,.int .i64 l.length),(0,.sl (l.map qbv)),(1,.clo (.func g) [] ys)],[],0,19⟩) (fun i=>∀j (hj:j<i) (hj':j<l.length),p l[j]=false) (qaa (k:=0) (ns:=[]) (ks:=[8,7,0,1]) [] rfl (by simp) (e8 _)) (by omega) ?_
 intro i hi hC
 repeat'(first|refine zQ ?_|(refine zI ?_;intro hlt)|(refine zC ?_ ?_<;>first|intro h|simp)|refine zE ?_|fail)
 ·refine qaW (d1:=.agg (qbv l[i])) rfl rfl hst (hf l[i] (List.getElem_mem _)) rfl ?_
  repeat'(first|refine zQ ?_|(refine zC ?_ ?_<;>first|intro h|simp)|refine zE ?_|fail)
  ·have h2:i<l.length:=by omega
   exact(qaY h2 h fun j hj=>hC j hj (by omega)).symm
  ·have h2:i<l.length:=by omega
   refine⟨by omega,fun j hj hj'=>?_,qaa (k:=0) (ns:=[]) (ks:=[8,7,0,1]) [] rfl (by simp) (e8 _)⟩
   rcases Nat.lt_succ_iff_lt_or_eq.1 hj with h'|rfl
   ·exact hC j h' hj'
   ·exact h
 ·refine(qa7 fun x hx=>?_).symm
  obtain⟨j,hj,rfl⟩:=List.mem_iff_getElem.1 hx
  exact hC j (by omega) hj
theorem qx3(l:List qfD)(hl:l.length<1000000000000)(g:FuncId)(ys:List D)(hst:qlk ys)(hpu:qbF ys=true)(p:qfD→Bool)(hf:∀x∈l,Contract Tryz.prog g (.agg (qbv x)::ys) (.ret (.bool (p x)))):
  Contract Tryz.prog 206 [.sl (l.map qbv),.clo (.func g) [] ys] (.ret (.bool (l.any p))):=by
 refine zT mix Tryz.func206 Tryz.ntmps206 Tryz.results206 rfl rfl rfl ?_;simp only[qac,Nat.reduceAdd]
 repeat'(first|refine zQ ?_|fail)
 refine qaj (args':=[.sl (l.map qbv),.clo (.func g) [] ys]) ?_ (qx2 l hl g ys hst hpu p hf) rfl ?_
 ·have e:=hst (lkH []) 45
  simp only[List.map_cons,List.map_nil,qab,lkE,qbQ,pur,Option.bind_some,Option.map_some,Nat.reduceEqDiff,if_true,if_false,e]
 repeat'(first|refine zA ?_|refine zE ?_|fail)
 exact qcI
theorem qx4(l:List Part)(hl:l.length<1000000000000)(g:FuncId)(ys:List D)(hst:qlk ys)(hpu:qbF ys=true)(p:Part→Bool)(hf:∀x∈l,Contract Tryz.prog g (.agg (qbt x)::ys) (.ret (.bool (p x)))):
  Contract Tryz.prog 296 [.sl (l.map qbt),.clo (.func g) [] ys] (.ret (.int .i64 (qci p l))):=by
 refine zT mix Tryz.func296 Tryz.ntmps296 Tryz.results296 rfl rfl rfl ?_;simp only[qac,Nat.reduceAdd]
 repeat'(first|refine zQ ?_|fail)
 have e8:∀i:Nat,(⟨[(8,.int .i64 i),(7,.int .i64 l.length),(0,.sl (l.map qbt)),(1,.clo (.func g) [] (qgI [] ys))],[],0,19⟩:St)=⟨[(8,.int .i64 i),(7,.int .i64 l.length),(0,.sl (l.map qbt)),(1,.clo (.func g) [] ys)],[],0,19⟩:=fun i=>by rw[qbr hpu]
 refine qaf l.length (fun i=>⟨[(8,.int .i64 i),(7,.int .i64 l.length),(0,.sl (l.map qbt)),(1,.clo (.func g) [] ys)],[],0,19⟩) (fun i=>∀j (hj:j<i) (hj':j<l.length),p l[j]=false) (qaa (k:=0) (ns:=[]) (ks:=[8,7,0,1]) [] rfl (by simp) (e8 _)) (by omega) ?_
 intro i hi hC
 repeat'(first|refine zQ ?_|(refine zI ?_;intro hlt)|(refine zC ?_ ?_<;>first|intro h|simp)|refine zE ?_|fail)
 ·refine qaW (d1:=.agg (qbt l[i])) rfl rfl hst (hf l[i] (List.getElem_mem _)) rfl ?_
  repeat'(first|refine zQ ?_|(refine zC ?_ ?_<;>first|intro h|simp)|refine zE ?_|fail)
  ·have h2:i<l.length:=by omega
   exact(qaY h2 h fun j hj=>hC j hj (by omega)).symm
  ·have h2:i<l.length:=by omega
   refine⟨by omega,fun j hj hj'=>?_,qaa (k:=0) (ns:=[]) (ks:=[8,7,0,1]) [] rfl (by simp) (e8 _)⟩
   rcases Nat.lt_succ_iff_lt_or_eq.1 hj with h'|rfl
   ·exact hC j h' hj'
   ·exact h
 ·refine(qa7 fun x hx=>?_).symm
  obtain⟨j,hj,rfl⟩:=List.mem_iff_getElem.1 hx
  exact hC j (by omega) hj
theorem qx5(l:List Part)(hl:l.length<1000000000000)(g:FuncId)(ys:List D)(hst:qlk ys)(hpu:qbF ys=true)(p:Part→Bool)(hf:∀x∈l,Contract Tryz.prog g (.agg (qbt x)::ys) (.ret (.bool (p x)))):
  Contract Tryz.prog 273 [.sl (l.map qbt),.clo (.func g) [] ys] (.ret (.bool (l.any p))):=by
 refine zT mix Tryz.func273 Tryz.ntmps273 Tryz.results273 rfl rfl rfl ?_;simp only[qac,Nat.reduceAdd]
 repeat'(first|refine zQ ?_|fail)
 refine qaj (args':=[.sl (l.map qbt),.clo (.func g) [] ys]) ?_ (qx4 l hl g ys hst hpu p hf) rfl ?_
 ·have e:=hst (lkH []) 45
  simp only[List.map_cons,List.map_nil,qab,lkE,qbQ,pur,Option.bind_some,Option.map_some,Nat.reduceEqDiff,if_true,if_false,e]
 repeat'(first|refine zA ?_|refine zE ?_|fail)
 exact qcI
def lv(l:List Int)(i:Nat):Int:=l.getD i 30000
theorem qbu{l:List Int}{i:Nat}(h:i<l.length):lv l i=l[i]:=by simp[lv,List.getD_eq_getElem?_getD,h]
theorem qkP{l:List Int}{i:Nat}(hi:i<l.length)(v:Int)(j:Nat):lv (l.set i v) j=if i=j then v else lv l j:=by
 simp only[lv,List.getD_eq_getElem?_getD,List.getElem?_set]
 by_cases h:i=j
 ·subst h;simp[hi]
 ·simp[h]
theorem ql9{a b:List Int}(h:a.length=b.length)(hi:∀i,i<a.length→lv a i=lv b i):a=b:=by
 refine List.ext_getElem h fun i h1 h2=>?_
 have:=hi i h1
 rwa[qbu h1,qbu h2]at this
structure Net where
 nb:Nat→Nat→Prop
 d:Nat→Nat→Int
structure Net.Ok(N:Net)(n:Nat):Prop where
 sym:∀i k,N.nb i k→N.nb k i
 dsym:∀i k,N.d i k=N.d k i
 pos:∀i k,i<n→k<n→N.nb i k→1≤N.d i k
 irr:∀i,¬N.nb i i
def qma(N:Net)(l:List Int):Prop:=∀i k,i<l.length→k<l.length→N.nb i k→lv l i≠30000→lv l k≠30000→lv l i-lv l k≤N.d i k
def qrv(w:Int)(m s:List Int):Prop:=s.length=m.length∧∀i,i<m.length→(lv s i=30000↔lv m i=30000)∧(lv m i≠30000→0≤(lv s i-lv m i)*w)
structure IsGS(N:Net)(w:Int)(m r:List Int):Prop where
 below:qrv w m r
 stable:qma N r
 best:∀s,qrv w m s→qma N s→∀i,i<m.length→lv m i≠30000→0≤(lv s i-lv r i)*w
structure Mid(N:Net)(w:Int)(m l:List Int):Prop where
 below:qrv w m l
 rng:∀i,i<l.length→lv l i≠30000→ -20000≤lv l i∧lv l i≤20000
 best:∀s,qrv w m s→qma N s→∀i,i<m.length→lv m i≠30000→0≤(lv s i-lv l i)*w
theorem Mid.start{N:Net}{w:Int}{m:List Int}(h:∀i,i<m.length→lv m i≠30000→ -20000≤lv m i∧lv m i≤20000):Mid N w m m:=
 ⟨⟨rfl,fun i _=>⟨Iff.rfl,fun _=>by simp⟩⟩,h,fun s hs _ i hi hk=>(hs.2 i hi).2 hk⟩
theorem IsGS.uniq{N:Net}{w:Int}{m r r':List Int}(hw:w= -1∨w=1)(h:IsGS N w m r)(h':IsGS N w m r'):r=r':=by
 have l1:=h.below.1
 have l2:=h'.below.1
 refine ql9 (by omega) fun i hi=>?_
 have a1:=h.below.2 i (by omega)
 have a2:=h'.below.2 i (by omega)
 by_cases hk:lv m i=30000
 ·rw[a1.1.2 hk,a2.1.2 hk]
 ·have b1:=h.best r' h'.below h'.stable i (by omega) hk
  have b2:=h'.best r h.below h.stable i (by omega) hk
  rcases hw with rfl|rfl<;>omega
def qrw(N:Net)(w:Int)(l:List Int)(i k:Nat):Prop:=(lv l i-w*N.d i k-lv l k)*w≤0
theorem qlr{N:Net}{w:Int}{n:Nat}(hN:N.Ok n)(hw:w= -1∨w=1){l:List Int}(h:∀i k,i<l.length→k<l.length→N.nb i k→lv l i≠30000→lv l k≠30000→qrw N w l i k):qma N l:=by
 intro i k hi hk hb h1 h2
 have e:=hN.dsym i k
 rcases hw with rfl|rfl
 ·have:=h k i hk hi (hN.sym _ _ hb) h2 h1
  unfold qrw at this
  omega
 ·have:=h i k hi hk hb h1 h2
  unfold qrw at this
  omega
theorem qls{N:Net}{w:Int}{n:Nat}(hN:N.Ok n)(hw:w= -1∨w=1){l:List Int}(h:qma N l):∀i k,i<l.length→k<l.length→N.nb i k→lv l i≠30000→lv l k≠30000→qrw N w l i k:=by
 intro i k hi hk hb h1 h2
 have e:=hN.dsym i k
 unfold qrw
 rcases hw with rfl|rfl
 ·have:=h k i hk hi (hN.sym _ _ hb) h2 h1
  omega
 ·have:=h i k hi hk hb h1 h2
  omega
theorem Mid.done{N:Net}{w:Int}{m l:List Int}(h:Mid N w m l)(hs:qma N l):IsGS N w m l:=⟨h.below,hs,h.best⟩
theorem Mid.step{N:Net}{w:Int}{n:Nat}(hN:N.Ok n)(hw:w= -1∨w=1){m l:List Int}(hn:m.length=n)(h:Mid N w m l){i k:Nat}(hi:i<l.length)(hk:k<l.length)(hb:N.nb i k)(h1:lv l i≠30000)(h2:lv l k≠30000)
  (hf:0<(lv l i-w*N.d i k-lv l k)*w):Mid N w m (l.set k (lv l i-w*N.d i k)):=by
 have hl:=h.below.1
 have d1:=hN.pos i k (by omega) (by omega) hb
 have r1:=h.rng i hi h1
 have r2:=h.rng k hk h2
 refine⟨⟨by simp[hl],fun j hj=>?_⟩,fun j hj hu=>?_,fun s hs hst j hj hu=>?_⟩
 ·have b:=h.below.2 j hj
  rw[qkP hk]
  split
  ·rename_i e
   subst e
   refine⟨⟨fun e=>?_,fun e=>absurd (b.1.2 e) h2⟩,fun hu=>?_⟩
   ·rcases hw with rfl|rfl<;>omega
   ·have:=b.2 hu
    rcases hw with rfl|rfl<;>omega
  ·exact b
 ·rw[List.length_set]at hj
  rw[qkP hk]at hu ⊢
  split
  ·rcases hw with rfl|rfl<;>omega
  ·rename_i e
   rw[if_neg e]at hu
   exact h.rng j hj hu
 ·have b:=h.best s hs hst j hj hu
  rw[qkP hk]
  split
  ·rename_i e
   subst e
   have hki:=h.below.2 i (by omega)
   have hui:lv m i≠30000:=fun e=>h1 (hki.1.2 e)
   have si:=hs.2 i (by omega)
   have sk:=hs.2 k (by omega)
   have bi:=h.best s hs hst i (by omega) hui
   have hlen:=hs.1
   have:=qls hN hw hst i k (by omega) (by omega) hb (fun e=>hui (si.1.1 e)) (fun e=>hu (sk.1.1 e))
   unfold qrw at this
   rcases hw with rfl|rfl<;>omega
  ·exact b
def left(w:Int)(l:List Int):Nat:=(l.map fun x=>(40000-x*w).toNat).sum
def qeY(w:Int)(l:List Int):Int:=(l.map (· *w)).sum
theorem qrx(w v:Int):∀(l:List Int) (k:Nat),k<l.length→left w (l.set k v)+(40000-lv l k*w).toNat=left w l+(40000-v*w).toNat
 |a::l,0,_=>by simp only[left,List.set_cons_zero,List.map_cons,List.sum_cons,lv,List.getD_cons_zero];omega
 |a::l,k+1,h=>by
  have:=qrx w v l k (by simpa using h)
  simp only[left,List.set_cons_succ,List.map_cons,List.sum_cons,lv,List.getD_cons_succ]at this ⊢
  omega
theorem qoI(w v:Int):∀(l:List Int) (k:Nat),k<l.length→qeY w (l.set k v)+lv l k*w=qeY w l+v*w
 |a::l,0,_=>by simp only[qeY,List.set_cons_zero,List.map_cons,List.sum_cons,lv,List.getD_cons_zero];omega
 |a::l,k+1,h=>by
  have:=qoI w v l k (by simpa using h)
  simp only[qeY,List.set_cons_succ,List.map_cons,List.sum_cons,lv,List.getD_cons_succ]at this ⊢
  omega
theorem qoJ{N:Net}{w:Int}{n:Nat}(hN:N.Ok n)(hw:w= -1∨w=1){m l:List Int}(hn:m.length=n)(h:Mid N w m l){i k:Nat}(hi:i<l.length)(hk:k<l.length)(hb:N.nb i k)(h1:lv l i≠30000)(h2:lv l k≠30000)
  (hf:0<(lv l i-w*N.d i k-lv l k)*w):left w (l.set k (lv l i-w*N.d i k))<left w l:=by
 have hl:=h.below.1
 have d1:=hN.pos i k (by omega) (by omega) hb
 have r1:=h.rng i hi h1
 have r2:=h.rng k hk h2
 have:=qrx w (lv l i-w*N.d i k) l k hk
 rcases hw with rfl|rfl<;>omega
theorem qbw:qeS qak 1:=fun _=>⟨rfl,rfl⟩
def qbo(g:Grid)(i:Nat):Nat→List Int
 |0=>[]
 |n+1=>if qdr g i n=true then qbo g i n++[(n:Int)]else qbo g i n
theorem qeo(g:Grid)(i:Nat):∀n,(qbo g i n).length≤n
 |0=>Nat.le_refl _
 |n+1=>by
  have:=qeo g i n
  simp only[qbo]
  split<;>simp<;>omega
theorem qJN(g:Grid)(h:OkGrid g)(i:Nat)(hi:i<g.levels.length):Contract Tryz.prog 135 [.agg (encGrid g),.int .i64 i] (.ret (.fr 1 ((qbo g i g.levels.length).map qak))):=by
 have hs:=h.small
 refine zT mix Tryz.func135 Tryz.ntmps135 Tryz.results135 rfl rfl rfl ?_;simp only[qac,Nat.reduceAdd]
 repeat'(first|refine zQ ?_|fail)
 refine qaf g.levels.length (fun j=>⟨[(5,.os 1 0 (qbo g i j).length),(6,.int .i64 j),(2,.op 0 0 0),(1,.int .i64 i)],[(1,⟨1,true,(qbo g i j).map qak⟩),(0,⟨6,true,[encGrid g]⟩)],32,23⟩) (fun j=>True) (qaa (nx:=32) (k:=1) (ns:=[(5,1)]) (ks:=[6,2,1]) [(0,0)] rfl (by simp;rfl) rfl) trivial ?_
 intro j hj hC
 have hlen:=qeo g i j
 by_cases hlt:j<g.levels.length
 ·have h61:=c61 g h i j hi hlt
  repeat'(first|refine zQ ?_|refine zF h61 ?_|(refine zC ?_ ?_<;>first|intro h|simp)|fail)
  all_goals first
   |(refine qaE (f:=qak) (a:=(j:Int)) (l:=qbo g i j) qbw rfl rfl rfl rfl rfl rfl (by kernel_rfl) (by kernel_rfl) (by omega) rfl ?_)
   |skip
  repeat'(first|refine zQ ?_|fail)
  ·have e:qbo g i (j+1)=qbo g i j++[(j:Int)]:=by show(if _ then _ else _)=_;rw[if_pos h]
   have el:(qbo g i j).length+1=(qbo g i (j+1)).length:=by rw[e];simp
   refine⟨hlt,trivial,?_⟩
   rw[←e,el]
   exact qaa (nx:=32) (k:=1) (ns:=[]) (ks:=[5,6,2,1]) [(1,1),(0,0)] rfl (by simp) rfl
  ·have e:qbo g i (j+1)=qbo g i j:=by show(if _ then _ else _)=_;rw[if_neg (by simp[h])]
   refine⟨hlt,trivial,?_⟩
   rw[e]
   exact qaa (nx:=32) (k:=1) (ns:=[]) (ks:=[5,6,2,1]) [(1,1),(0,0)] rfl (by simp) rfl
  ·exact absurd hlt (by omega)
 ·have e:j=g.levels.length:=by omega
  subst e
  repeat'(first|refine zQ ?_|(refine zC ?_ ?_<;>first|intro h|simp)|fail)
  ·exact absurd ‹_› (by omega)
  ·exact qok rfl rfl rfl
end Go.Pv.Soil
namespace Go.Pv.Geo
end Go.Pv.Geo
namespace Go.Pv.Ord
variable {n:Nat}{R p:Nat→Nat→Int}
inductive Rch(n:Nat)(R:Nat→Nat→Int):Nat→Prop
 |zero:Rch n R 0
 |step {s k:Nat}:Rch n R s→k<n→nx R s k=true→Rch n R (s|||2^k)
def cz:Nat→Nat→Nat
 |0,_=>0
 |n+1,s=>cz n s+if s.testBit n then 0 else 1
theorem qr9{s t:Nat}:∀{n:Nat},(∀j,j<n→s.testBit j=t.testBit j)→cz n s=cz n t
 |0,_=>rfl
 |n+1,h=>by simp only[cz,h n (Nat.lt_succ_self n),qr9 (n:=n) fun j hj=>h j (by omega)]
theorem tb_or(s k j:Nat):(s|||2^k).testBit j=(s.testBit j||decide (k=j)):=by
 rw[Nat.testBit_or,Nat.testBit_two_pow]
theorem qyM{s k:Nat}(hs:s.testBit k=false):∀{n:Nat},k<n→cz n s=cz n (s|||2^k)+1
 |n+1,h=>by
  simp only[cz,tb_or]
  by_cases e:k=n
  ·subst e
   rw[hs,qr9 (s:=s|||2^k) (t:=s) fun j hj=>by rw[tb_or,decide_eq_false (by omega),Bool.or_false]]
   simp
  ·rw[qyM hs (n:=n) (by omega),decide_eq_false e,Bool.or_false]
   omega
theorem qqq:∀{n:Nat},cz n 0=n
 |0=>rfl
 |n+1=>by simp[cz,qqq (n:=n)]
theorem qzO{s:Nat}:∀{n:Nat},cz n s=0→∀j,j<n→s.testBit j=true
 |n+1,h,j,hj=>by
  simp only[cz]at h
  by_cases e:j=n
  ·subst e
   cases hb:s.testBit j with
   |true=>rfl
   |false=>rw[hb]at h;simp at h
  ·exact qzO (n:=n) (by omega) j (by omega)
theorem qmk{s n:Nat}(hs:s<2^n)(h:cz n s=0):s=2^n-1:=by
 apply Nat.eq_of_testBit_eq
 intro j
 rw[Nat.testBit_two_pow_sub_one]
 rcases Nat.lt_or_ge j n with hj|hj
 ·rw[qzO h j hj];simp[hj]
 ·rw[Nat.testBit_lt_two_pow (Nat.lt_of_lt_of_le hs (Nat.pow_le_pow_right (by omega) hj))]
  simp;omega
theorem qns:∀{n m:Nat},n≤m→cz n (2^m-1)=0
 |0,_,_=>rfl
 |n+1,m,h=>by simp[cz,qns (n:=n) (m:=m) (by omega),Nat.testBit_two_pow_sub_one,show n<m by omega]
theorem qtw{s k n:Nat}(hs:s<2^n)(hk:k<n):s|||2^k<2^n:=Nat.or_lt_two_pow hs (Nat.pow_lt_pow_right (by omega) hk)
theorem qDv{s k:Nat}(h:s.testBit k=false):s|||2^k=s+2^k:=by
 apply Nat.eq_of_testBit_eq
 intro j
 rw[tb_or]
 have e:s+2^k=2^k+s:=Nat.add_comm _ _
 rcases Nat.lt_trichotomy j k with hj|hj|hj
 ·rw[e,Nat.testBit_two_pow_add_gt hj,decide_eq_false (by omega),Bool.or_false]
 ·subst hj
  rw[e,Nat.testBit_two_pow_add_eq,h]
  simp
 ·rw[decide_eq_false (by omega),Bool.or_false]
  have h2:s/2^k%2=0:=by
   rw[Nat.testBit_eq_decide_div_mod_eq]at h
   have:=of_decide_eq_false h
   omega
  have h3:(s+2^k)/2^(k+1)=s/2^(k+1):=by
   have e1:s/2^(k+1)=s/2^k/2:=by rw[Nat.div_div_eq_div_mul,Nat.pow_succ]
   have e2:(s+2^k)/2^(k+1)=(s+2^k)/2^k/2:=by rw[Nat.div_div_eq_div_mul,Nat.pow_succ]
   rw[e1,e2,Nat.add_div_right _ (Nat.two_pow_pos k)]
   omega
  have h4:∀a:Nat,a.testBit j=(a/2^(k+1)).testBit (j-(k+1)):=fun a=>by
   rw[Nat.testBit_div_two_pow]
   congr 1
   omega
  rw[h4 s,h4 (s+2^k),h3]
theorem qF1{s k:Nat}(h:s.testBit k=false):s<s|||2^k:=by
 rw[qDv h]
 have:=Nat.two_pow_pos k
 omega
theorem nx_bit{s k:Nat}(h:nx R s k=true):s.testBit k=false:=by
 simp only[nx,Bool.and_eq_true,Bool.not_eq_true']at h
 exact h.1
def stepR(R:Nat→Nat→Int)(s:Nat)(arr:List Bool)(k:Nat):List Bool:=if nx R s k=true then arr.set (s|||2^k) true else arr
def qDw(n:Nat)(R:Nat→Nat→Int)(arr:List Bool)(s:Nat):List Bool:=if arr.getD s false=true then(List.range n).foldl (stepR R s) arr else arr
def qnt(n:Nat)(R:Nat→Nat→Int)(s:Nat):List Bool:=(List.range s).foldl (qDw n R) ((List.replicate (2^n) false).set 0 true)
theorem qpc(s:Nat):qnt n R (s+1)=qDw n R (qnt n R s) s:=by simp[qnt,List.range_succ]
theorem qpd{s:Nat}{arr:List Bool}(ks:List Nat):(ks.foldl (stepR R s) arr).length=arr.length:=by
 induction ks generalizing arr with
 |nil=>rfl
 |cons k ks ih=>rw[List.foldl_cons,ih];unfold stepR;split<;>simp
theorem qyN(arr:List Bool)(s:Nat):(qDw n R arr s).length=arr.length:=by
 unfold qDw;split
 ·exact qpd _
 ·rfl
theorem qsa:∀(s:Nat),(qnt n R s).length=2^n
 |0=>by simp[qnt]
 |s+1=>by rw[qpc,qyN,qsa s]
theorem qas{arr:List Bool}{i t:Nat}(hi:i<arr.length):(arr.set i true).getD t false=true↔arr.getD t false=true∨t=i:=by
 simp only[List.getD_eq_getElem?_getD,List.getElem?_set]
 by_cases h:i=t
 ·subst h;simp[hi]
 ·simp[h,Ne.symm h]
end Go.Pv.Ord

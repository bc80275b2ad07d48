import Derived.Test.YtfklpkgdobdbpaaGreatCAL
import Derived.Test.YtfklpkgdobdbpaaGreatCAP
/- Part of the proofs over YtfklpkgdobdbpaaGreat: S24, N2, N3. -/
set_option linter.unusedVariables false
set_option linter.unusedSimpArgs false
set_option linter.unnecessarySimpa false
open Go Go.Proofs Go.Pv
set_option maxHeartbeats 8000000
set_option maxRecDepth 100000
set_option linter.unusedSimpArgs false
set_option linter.unusedVariables false
namespace Go.Pv.Soil
structure OkGrid(g:Grid):Prop where
 bds:((-1000000≤g.x∧g.x≤1000000)∧ -1000000≤g.y∧g.y≤1000000)∧(100≤g.side∧g.side≤10000)∧(1≤g.cols∧g.cols≤1024)∧1≤g.rows∧g.rows≤1024
 cells:g.cols*g.rows≤1024
 ends:g.x+g.cols*g.side≤1000000∧g.y+g.rows*g.side≤1000000
 len:(g.levels.length:Int)=g.cols*g.rows
 lvl:∀i (h:i<g.levels.length),g.levels[i]=30000∨qhQ g.levels[i]=true
theorem qf4{g:Grid}(h:qa2 g=0):OkGrid g:=by
 unfold qa2 at h
 split at h
 ·omega
 ·rename_i h1
  split at h
  ·omega
  ·split at h
   ·omega
   ·split at h
    ·omega
    ·split at h
     ·omega
     ·rename_i h5
      refine⟨Decidable.not_not.1 h1,by omega,by omega,by omega,fun i hi=>?_⟩
      simp only[List.any_eq_true,not_exists,not_and]at h5
      have:=h5 _ (List.getElem_mem hi)
      simp only[qhC,Bool.and_eq_true,decide_eq_true_eq,Bool.not_eq_true',not_and,Bool.not_eq_false]at this
      by_cases h3:g.levels[i]=30000
      ·exact .inl h3
      ·exact .inr (this h3)
theorem OkGrid.small{g:Grid}(h:OkGrid g):g.levels.length≤1024:=by have:=h.len;have:=h.cells;omega
def qar(g:Grid)(i:Nat):Pt:=⟨g.x+(i:Int)%g.cols*g.side+g.side/2,g.y+(i:Int)/g.cols*g.side+g.side/2⟩
def qCO(g:Grid)(i:Nat):Pt:=⟨g.x+(i:Int)%g.cols*g.side,g.y+(i:Int)/g.cols*g.side⟩
theorem qbN{a b m n:Int}(ha:0≤a∧a≤m)(hb:0≤b∧b≤n):0≤a*b∧a*b≤m*n:=
 ⟨Int.mul_nonneg ha.1 hb.1,Int.mul_le_mul ha.2 hb.2 hb.1 (by omega)⟩
theorem qdn{g:Grid}(h:OkGrid g){i:Nat}(hi:i<g.levels.length):(0≤(i:Int)%g.cols∧(i:Int)%g.cols<g.cols)∧(0≤(i:Int)/g.cols∧(i:Int)/g.cols<g.rows)∧
  (0≤(i:Int)%g.cols*g.side∧(i:Int)%g.cols*g.side≤10240000)∧(0≤(i:Int)/g.cols*g.side∧(i:Int)/g.cols*g.side≤10240000):=by
 have hb:=h.bds
 have h1:0≤(i:Int)%g.cols:=Int.emod_nonneg _ (by omega)
 have h2:(i:Int)%g.cols<g.cols:=Int.emod_lt_of_pos _ (by omega)
 have h3:0≤(i:Int)/g.cols:=Int.ediv_nonneg (by omega) (by omega)
 have h4:(i:Int)/g.cols<g.rows:=Int.ediv_lt_of_lt_mul (by omega) (by have:=h.len;rw[Int.mul_comm];omega)
 have h5:=qbN (a:=(i:Int)%g.cols) (b:=g.side) (m:=1024) (n:=10000) (by omega) (by omega)
 have h6:=qbN (a:=(i:Int)/g.cols) (b:=g.side) (m:=1024) (n:=10000) (by omega) (by omega)
 omega
theorem c60(g:Grid)(hl:g.levels.length<1000000000000)(i:Int):Contract Tryz.prog 67 [.agg (qag g),.int .i64 i] (.ret (.bool (decide (0≤i∧i<g.levels.length)))):=by
 refine zT mix Tryz.func67 Tryz.ntmps67 Tryz.results67 rfl rfl rfl ?_;simp only[qab,Nat.reduceAdd]
 repeat'(first|refine zQ ?_|(refine zG ?_ ?_<;>first|intro h|simp)|refine zE ?_|fail)
 ·exact decide_eq_decide.2 (by omega)
 ·exact(decide_eq_false (by omega)).symm
theorem qLZ(g:Grid)(i:Nat)(hi:i<g.levels.length):Contract Tryz.prog 303 [.agg (qag g),.int .i64 i] (.ret (.bool (!decide (g.levels[i]=30000)))):=by
 refine zT mix Tryz.func303 Tryz.ntmps303 Tryz.results303 rfl rfl rfl ?_;simp only[qab,Nat.reduceAdd]
 repeat'(first|(with_reducible rfl)|refine zQ ?_|(refine zI ?_;intro hlt)|refine zE ?_|fail)
theorem c41(g:Grid)(hl:g.levels.length<1000000000000)(i:Nat)(hi:i<g.levels.length):Contract Tryz.prog 62 [.agg (qag g),.int .i64 i] (.ret (.bool (!decide (g.levels[i]=30000)))):=by
 have h60:Contract Tryz.prog 67 [.agg (qag g),.int .i64 i] (.ret (.bool true)):=by
  have:=c60 g hl i
  rwa[decide_eq_true (by omega)]at this
 refine zT mix Tryz.func62 Tryz.ntmps62 Tryz.results62 rfl rfl rfl ?_;simp only[qab,Nat.reduceAdd]
 repeat'(first|(with_reducible rfl)|refine zQ ?_|refine zF h60 ?_|(refine zI ?_;intro hlt)|refine zE ?_|fail)
theorem qlq:Tryz.prog.cellsOf 108=2:=by kernel_rfl
theorem qCP(g:Grid)(h:OkGrid g)(i:Nat)(hi:i<g.levels.length):Contract Tryz.prog 64 [.agg (qag g),.int .i64 i] (.ret (.agg (encPt (qar g i)))):=by
 have hb:=h.bds
 have hc:=qdn h hi
 have hs:=h.small
 refine zT mix Tryz.func64 Tryz.ntmps64 Tryz.results64 rfl rfl rfl ?_;simp only[qab,Nat.reduceAdd]
 repeat'(first|refine zQ ?_|refine zE ?_|fail)
 rw[qlq];rfl
theorem qL0(g:Grid)(h:OkGrid g)(i:Nat)(hi:i<g.levels.length):Contract Tryz.prog 297 [.agg (qag g),.int .i64 i] (.ret (.agg (encPt (qCO g i)))):=by
 have hb:=h.bds
 have hc:=qdn h hi
 have hs:=h.small
 refine zT mix Tryz.func297 Tryz.ntmps297 Tryz.results297 rfl rfl rfl ?_;simp only[qab,Nat.reduceAdd]
 repeat'(first|refine zQ ?_|refine zE ?_|fail)
 rw[qlq];rfl
theorem qL1(g:Grid)(h:OkGrid g)(i:Nat)(hi:i<g.levels.length):Contract Tryz.prog 275 [.agg (qag g),.int .i64 i] (.ret (.agg (encPt (qar g i)))):=by
 have hb:=h.bds
 have hc:=qdn h hi
 have hs:=h.small
 have h175:Contract Tryz.prog 297 [.agg (qag g),.int .i64 i] (.ret (.agg [.int .i64 (g.x+(i:Int)%g.cols*g.side),.int .i64 (g.y+(i:Int)/g.cols*g.side)])):=qL0 g h i hi
 refine zT mix Tryz.func275 Tryz.ntmps275 Tryz.results275 rfl rfl rfl ?_;simp only[qab,Nat.reduceAdd]
 repeat'(first|refine zQ ?_|refine zF h175 ?_|refine zE ?_|fail)
 all_goals (rw[qlq];rfl)
theorem qKm(g:Grid)(h:OkGrid g)(i:Nat)(hi:i<g.levels.length)(h0:qa2 g=0):Contract Tryz.prog 209 [.agg (qag g),.int .i64 i] (.ret (.int .i64 0)):=by
 have hs:=h.small
 have h144:=qD6 g (by omega)
 rw[h0]at h144
 refine zT mix Tryz.func209 Tryz.ntmps209 Tryz.results209 rfl rfl rfl ?_;simp only[qab,Nat.reduceAdd]
 repeat'(first|((with_reducible apply qae);rfl;(exact qzR _ _ _);rfl)|(with_reducible rfl)|refine zQ ?_|refine zF h144 ?_|(refine zC ?_ ?_<;>first|intro h|simp)|refine zE ?_|fail)
 all_goals (exfalso;omega)
theorem c74(g:Grid)(h:OkGrid g)(i:Nat)(hi:i<g.levels.length)(h0:qa2 g=0):Contract Tryz.prog 244 [.agg (qag g),.int .i64 i] (.ret (.tup [.agg (encPt (qar g i)),.int .i64 0])):=by
 have h130:=qKm g h i hi h0
 have h131:=qL1 g h i hi
 refine zT mix Tryz.func244 Tryz.ntmps244 Tryz.results244 rfl rfl rfl ?_;simp only[qab,Nat.reduceAdd]
 repeat'(first|refine zQ ?_|refine zF h130 ?_|refine zF h131 ?_|refine zE ?_|fail)
 all_goals (rw[qlq];rfl)
theorem qG1(g:Grid)(h:OkGrid g)(i:Nat)(hi:i<g.levels.length)(h0:qa2 g=0):Contract Tryz.prog 250 [.agg (qag g),.int .i64 i] (.ret (.agg (encPt (qar g i)))):=by
 have h74:=c74 g h i hi h0
 refine zT mix Tryz.func250 Tryz.ntmps250 Tryz.results250 rfl rfl rfl ?_;simp only[qab,Nat.reduceAdd]
 repeat'(first|refine zQ ?_|refine zF h74 ?_|refine zE ?_|fail)
 all_goals (rw[qlq];rfl)
structure Mark where
 minute:Int
 level:Int
structure Gauge where
 name:ByteArray
 x:Int
 err:Int
 marks:List Mark
structure qe7 where
 name:ByteArray
 kind:Int
 corners:List Geo.Pt
structure Outp where
 soil:ByteArray
 rate:Int
 wear:Int
structure Dred where
 name:ByteArray
 kind:Int
 depth:Int
 across:Int
 along:Int
 bite:Int
 hour:Int
 outs:List Outp
structure Cut where
 name:ByteArray
 dredger:ByteArray
 col:Int
 row:Int
 cols:Int
 rows:Int
 level:Int
 start:Int
structure Site where
 bed:Grid
 ground:Ground
 zones:List qe7
 quays:List Quay
 gauges:List Gauge
 dreds:List Dred
def qfa(m:Mark):List D:=[.int .i64 m.minute,.int .i64 m.level]
def qax(g:Gauge):List D:=[.str g.name,.int .i64 g.x,.int .i64 g.err,.sl (g.marks.map qfa)]
def qbw(z:qe7):List D:=[.str z.name,.int .i64 z.kind,.sl (z.corners.map Geo.encPt)]
def qb3(o:Outp):List D:=[.str o.soil,.int .i64 o.rate,.int .i64 o.wear]
def qa4(d:Dred):List D:=[.str d.name,.int .i64 d.kind,.int .i64 d.depth,.int .i64 d.across,.int .i64 d.along,.int .i64 d.bite,.int .i64 d.hour,.sl (d.outs.map qb3)]
def encCut(c:Cut):List D:=[.str c.name,.str c.dredger,.int .i64 c.col,.int .i64 c.row,.int .i64 c.cols,.int .i64 c.rows,.int .i64 c.level,.int .i64 c.start]
def encSite(s:Site):List D:=[.int .i64 s.bed.x,.int .i64 s.bed.y,.int .i64 s.bed.side,.int .i64 s.bed.cols,.int .i64 s.bed.rows,.sl (s.bed.levels.map qal),.sl (s.ground.soils.map qaG),.sl (s.ground.borings.map qbG),
 .sl (s.zones.map qbw),.sl (s.quays.map qct),.sl (s.gauges.map qax),.sl (s.dreds.map qa4)]
theorem qat{n:Nat}{f:Nat→Int}{i:Nat}{e:Int}(hi:i<n)(hC:∀j,j<i→f j=0)(h:f i=e)(he:e≠0):e=qcK n f:=by
 subst h
 exact(qig hi hC he).symm
theorem qaQ{f:Nat→Int}{i:Nat}(hC:∀j,j<i→f j=0)(h:f i=0):∀j,j<i+1→f j=0:=fun j hj=>by
 rcases Nat.lt_succ_iff_lt_or_eq.1 hj with h'|rfl
 ·exact hC j h'
 ·exact h
def qe0(m:Mark):Bool:=decide ((0≤m.minute∧m.minute≤1000000)∧(-20000≤m.level∧m.level≤20000))
def qoa(l:List Mark)(i:Nat):Int:=match l[i]? with
 |none=>0
 |some m=>if qe0 m=false then 2 else if 0<i∧m.minute≤((l[i-1]?).map (·.minute)).getD 0 then 9 else 0
def qoI(g:Gauge):Int:=if ¬((-1000000≤g.x∧g.x≤1000000)∧(0≤g.err∧g.err≤1000))then 2 else if 400<g.marks.length then 8 else qcK g.marks.length (qoa g.marks)
def qxk(l:List Gauge)(i:Nat):Int:=match l[i]? with
 |none=>0
 |some g=>if qaZ g.name=false then 4 else if((l.take i).any fun h=>decide (h.name=g.name))=true then 5 else if qoI g≠0 then qoI g else if 0<i∧g.x≤((l[i-1]?).map (·.x)).getD 0 then 9 else 0
def qcg(l:List Gauge):Int:=if 6<l.length then 8 else qcK l.length (qxk l)
def qxl(o:Outp):Int:=if(1≤o.rate∧o.rate≤100000)∧(0≤o.wear∧o.wear≤1000)then 0 else 2
def qj5(d:Dred):Prop:=(0≤d.kind∧d.kind≤2)∧(1≤d.depth∧d.depth≤10000)∧(1≤d.bite∧d.bite≤10000)∧(1≤d.across∧d.across≤100)∧(1≤d.along∧d.along≤100)∧(0≤d.hour∧d.hour≤1000000)
instance (d:Dred):Decidable (qj5 d):=inferInstanceAs (Decidable (_∧_))
def qfb(d:Dred):Int:=if qaZ d.name=false then 4 else if ¬qj5 d then 2 else if 8<d.outs.length then 8 else qg4 (·.soil) qxl d.outs
def qdZ(l:List qe7):Int:=if 10<l.length then 8 else qg4 (·.name) (fun z=>Geo.polyE z.corners) l
def qlr(l:List Quay)(i:Nat):Int:=match l[i]? with
 |none=>0
 |some q=>if qe8 q≠0 then qe8 q else if((l.take i).any fun h=>decide (h.name=q.name))=true then 5 else 0
def qeb(l:List Quay):Int:=if 5<l.length then 8 else qcK l.length (qlr l)
def qmk(soils:List Soil)(l:List Dred)(i:Nat):Int:=match l[i]? with
 |none=>0
 |some d=>if qfb d≠0 then qfb d else if((l.take i).any fun h=>decide (h.name=d.name))=true then 5 else if(d.outs.any fun o=>decide (qbj soils o.soil<0))=true then 6 else 0
def qeE(soils:List Soil)(l:List Dred):Int:=if 6<l.length then 8 else qcK l.length (qmk soils l)
def qda(s:Site):Int:=if qa2 s.bed≠0 then qa2 s.bed else if qaB s.ground≠0 then qaB s.ground else if qdZ s.zones≠0 then qdZ s.zones else if qeb s.quays≠0 then qeb s.quays else if qcg s.gauges≠0 then qcg s.gauges else qeE s.ground.soils s.dreds
def qdb(s:Site)(n:ByteArray):Int:=qcs (fun d=>decide (d.name=n)) s.dreds
def qec(s:Site)(c:Cut):Int:=if qdb s c.dredger<0 then 6 else if ¬(qhQ c.level=true∧(0≤c.start∧c.start≤1000000))then 2 else
 if ¬((0≤c.col∧c.col≤s.bed.cols-1)∧(0≤c.row∧c.row≤s.bed.rows-1)∧(1≤c.cols∧c.cols≤s.bed.cols-c.col)∧(1≤c.rows∧c.rows≤s.bed.rows-c.row))then 10 else 0
def qls(s:Site)(l:List Cut):Int:=if 40<l.length then 8 else qg4 (·.name) (qec s) l
def qcy(s:Site)(l:List Cut):Int:=if qda s≠0 then qda s else qls s l
def onE(s:Site)(b:Grid)(c:Cut):Int:=if qcy s [c]≠0 then qcy s [c]else if qa2 b≠0 then qa2 b else if qbR s.bed b=true then 0 else 10
instance qL2:TMap Tryz.prog 144 .string (.bool false):=⟨⟨9,4,by kernel_rfl,by kernel_rfl,by kernel_rfl⟩⟩
instance qL3:TMap Tryz.prog 266 (.int .i64) (.bool false):=⟨⟨3,4,by kernel_rfl,by kernel_rfl,by kernel_rfl⟩⟩
theorem qxm(n lo hi:Int):Contract Tryz.prog 158 [.int .i64 n,.ptr [.int .i64 lo],.ptr [.int .i64 hi]] (.ret (.bool (decide (n<lo∨hi<n)))):=by
 refine zT mix Tryz.func158 Tryz.ntmps158 Tryz.results158 rfl rfl rfl ?_;simp only[qab,Nat.reduceAdd]
 repeat'(first|refine zQ ?_|(refine zG ?_ ?_<;>first|intro h|simp)|refine zE ?_|fail)
 ·exact decide_eq_decide.2 (by omega)
 ·exact(decide_eq_true (.inl h)).symm
theorem qsJ(lo hi:Int)(l:List Int)(hl:l.length<1000000000000):Contract Tryz.prog 82 [.int .i64 lo,.int .i64 hi,.sl (l.map qal)] (.ret (.bool (qD5 lo hi l))):=by
 refine zT mix Tryz.func82 Tryz.ntmps82 Tryz.results82 rfl rfl rfl ?_;simp only[qab,Nat.reduceAdd]
 repeat'(first|refine zQ ?_|fail)
 refine qae (args':=[.sl (l.map qal),.clo (.func 158) [] [.ptr [.int .i64 lo],.ptr [.int .i64 hi]]]) rfl (qCN l hl 158 _ (fun _ _=>rfl) rfl (fun n=>decide (n<lo∨hi<n)) fun x _=>qxm x lo hi) rfl ?_
 repeat'(first|refine zA ?_|refine zE ?_|fail)
 rfl
theorem qml(lo hi n:Int):Contract Tryz.prog 82 [.int .i64 lo,.int .i64 hi,.sl [[.int .i64 n]]] (.ret (.bool (decide (lo≤n∧n≤hi)))):=qE3 lo hi n▸qsJ lo hi [n] (by simp)
theorem qHZ(lo hi n m:Int):Contract Tryz.prog 82 [.int .i64 lo,.int .i64 hi,.sl [[.int .i64 n],[.int .i64 m]]] (.ret (.bool (decide ((lo≤n∧n≤hi)∧(lo≤m∧m≤hi))))):=qE4 lo hi n m▸qsJ lo hi [n,m] (by simp)
theorem qsK(c:Int):Contract Tryz.prog 156 [.int .u8 c] (.ret (.bool (qf3 c))):=by
 refine zT mix Tryz.func156 Tryz.ntmps156 Tryz.results156 rfl rfl rfl ?_;simp only[qab,Nat.reduceAdd]
 repeat'(first|refine zQ ?_|(refine zG ?_ ?_<;>first|intro h|simp)|refine zE ?_|fail)
 all_goals (simp only[qf3];first|(symm;exact decide_eq_true (by omega))|(symm;exact decide_eq_false (by omega))|(refine decide_eq_decide.2 ?_;omega)|trace_state)
theorem qH0{i:Nat}{c:Int}(h:qf3 c=false)(h1:¬c=45)(h2:c<48∨57<c):qj4 i c=false:=by
 rw[qj4,h,decide_eq_false (by omega:¬(c=45∨(48≤c∧c≤57)))]
 simp
theorem qL4{i:Nat}{c:Int}(h:qf3 c=true):qj4 i c=true:=by rw[qj4,h];rfl
theorem qL5{i:Nat}{c:Int}(hi:i≠0)(h:c=45∨(48≤c∧c≤57)):qj4 i c=true:=by rw[qj4,decide_eq_true hi,decide_eq_true h];simp
theorem qpC(s:ByteArray):Contract Tryz.prog 81 [.str s] (.ret (.bool (qaZ s))):=by
 refine zT mix Tryz.func81 Tryz.ntmps81 Tryz.results81 rfl rfl rfl ?_;simp only[qab,Nat.reduceAdd]
 repeat'(first|((with_reducible apply qae);rfl;(exact qsK _);rfl)|refine zQ ?_|(refine zC ?_ ?_<;>first|intro h|simp)|(refine zG ?_ ?_<;>first|intro h|simp)|refine zE ?_|fail)
 all_goals try(exact qc7 (by omega))
 ·exact qes (i:=0) (by omega) (by rw[qj4,show qf3 (qdu s 0)=false from h];rfl)
 have hl0:qf3 (qdu s 0)=true:=h
 refine qad s.size (fun i=>⟨[(21,.int .i64 i),(20,.int .i64 s.size),(0,.str s)],[],32,43⟩) (fun i=>∀j,j<i→qj4 j (qdu s j)=true) (qaa (nx:=32) (k:=0) (ns:=[]) (ks:=[21,20,0]) [] rfl (by simp) (by kernel_rfl)) (by omega) ?_
 intro i hi hC
 have hch:qf3 (qdu s i)=false→i≠0:=fun hn h00=>by subst h00;rw[hl0]at hn;cases hn
 repeat'(first|((with_reducible apply qae);rfl;(exact qsK _);rfl)|refine zQ ?_|(refine zC ?_ ?_<;>first|intro h|simp)|(refine zG ?_ ?_<;>first|intro h|simp)|refine zE ?_|fail)
 all_goals try simp only[Int.toNat_natCast]at*
 all_goals first
  |exact qgP (by omega) (by omega) fun j hj=>hC j (by omega)
  |exact qes (i:=i) (by omega) (qH0 (by assumption) (by assumption) (by omega))
  |(refine⟨by omega,qfo hC (qL4 (by assumption)),qaa (nx:=32) (k:=0) (ns:=[]) (ks:=[21,20,0]) [] rfl (by simp) (by kernel_rfl)⟩)
  |(refine⟨by omega,qfo hC (qL5 (hch (by assumption)) (by omega)),qaa (nx:=32) (k:=0) (ns:=[]) (ks:=[21,20,0]) [] rfl (by simp) (by kernel_rfl)⟩)
  |trace_state
end Go.Pv.Soil

import Derived.Test.YtfklpkgdobdbpaaGreatCAQ
/- Part of the proofs over YtfklpkgdobdbpaaGreat: S67, R13. -/
set_option linter.unusedVariables false
set_option linter.unusedSimpArgs false
set_option linter.unnecessarySimpa false
open Go Go.Proofs Go.Pv
set_option maxHeartbeats 8000000
set_option maxRecDepth 100000
set_option linter.unusedSimpArgs false
set_option linter.unusedVariables false
namespace Go.Pv.Soil
noncomputable def qhg(q:Quay)(p:Geo.Pt):Int:=q.toe-(10*Geo.offE q.a q.b p)/q.run
def qnj(q:Quay)(p:Geo.Pt):Prop:=(0≤Geo.crossE q.a q.b p∧0≤Geo.alongE q.a q.b p)∧Geo.alongE q.a q.b p≤Geo.spanE (Geo.sqE q.a q.b)
open Classical in
noncomputable def qgy(q:Quay)(p:Geo.Pt):Int×Bool:=if qnj q p then(qhg q p,decide (-20000≤qhg q p))else(0,false)
theorem qBC{a b p:Geo.Pt}(ha:Geo.ptOK a=true)(hb:Geo.ptOK b=true)(hp:Geo.ptOK p=true):0≤Geo.offE a b p∧Geo.offE a b p≤8000000000000:=by
 have h1:=Geo.crossE_bd ha hb hp
 have h2:=Geo.absE_nn (Geo.crossE a b p)
 have h3:=Geo.absE_le (B:=8000000000000) (n:=Geo.crossE a b p) h1
 have h4:=(Geo.span_is (Geo.sqE_bd ha hb).2).1.1
 unfold Geo.offE
 refine⟨Int.ediv_nonneg h2 h4,?_⟩
 exact Int.le_trans (Int.ediv_le_self _ h2) h3
theorem qL9(q:Quay)(hq:qe8 q=0)(p:Geo.Pt)(hp:Geo.ptOK p=true):Contract Tryz.prog 258 [.agg (qct q),.agg (gP p)] (.ret (.tup [.int .i64 (qgy q p).1,.bool (qgy q p).2])):=by
 obtain⟨⟨ka,kb⟩,⟨kt,kr⟩,hne⟩:=qw8 hq
 have hl:Geo.lineE q.a q.b p=0:=by unfold Geo.lineE;simp[ka,kb,hp,hne]
 have x1:Contract Tryz.prog 289 [.agg (gP q.a),.agg (gP q.b),.agg (gP p)] (.ret (.tup [.int .i64 (Geo.alongE q.a q.b p),.int .i64 0])):=by
  have:=Geo.c_Along q.a q.b p
  rw[Geo.alongX,if_pos hl,hl]at this
  exact this
 have x2:Contract Tryz.prog 292 [.agg (gP q.a),.agg (gP q.b),.agg (gP p)] (.ret (.tup [.int .i64 (Geo.offE q.a q.b p),.int .i64 0])):=by
  have:=Geo.c_Offset q.a q.b p
  rw[Geo.offX,if_pos hl,hl]at this
  exact this
 have x3:Contract Tryz.prog 290 [.agg (gP q.a),.agg (gP q.b),.agg (gP p)] (.ret (.int .i64 (Geo.crossE q.a q.b p))):=by
  have:=Geo.c_Cross q.a q.b p
  rw[show Geo.crossX q.a q.b p=Geo.crossE q.a q.b p by unfold Geo.crossX;simp[ka,kb,hp]]at this
  exact this
 have x4:Contract Tryz.prog 291 [.agg (gP q.a),.agg (gP q.b)] (.ret (.int .i64 (Geo.spanE (Geo.sqE q.a q.b)))):=by
  have:=Geo.c_Span q.a q.b
  rw[show Geo.spanX q.a q.b=Geo.spanE (Geo.sqE q.a q.b)by unfold Geo.spanX;simp[ka,kb]]at this
  exact this
 have ho:=qBC ka kb hp
 have ht: -20000≤q.toe∧q.toe≤20000:=by simpa[qhQ]using kt
 have hd:0≤10*Geo.offE q.a q.b p/q.run:=Int.ediv_nonneg (by omega) (by omega)
 have hd2:10*Geo.offE q.a q.b p/q.run≤80000000000000:=Int.le_trans (Int.ediv_le_self _ (by omega)) (by omega)
 unfold gP at x1 x2 x3 x4
 refine zT mix Tryz.func258 Tryz.ntmps258 Tryz.results258 rfl rfl rfl ?_;simp only[qab,Nat.reduceAdd]
 repeat'(first|refine zQ ?_|refine zF x1 ?_|refine zF x3 ?_|refine zF x4 ?_|refine zF x2 ?_|(refine zC ?_ ?_<;>first|intro h|simp)|(refine zG ?_ ?_<;>first|intro h|simp)|refine zE ?_|fail)
 all_goals first
  |(rw[show qgy q p=(0,false)from if_neg (by unfold qnj;omega)];rfl)
  |(rw[show qgy q p=(qhg q p,decide (-20000≤qhg q p))from if_pos (by unfold qnj;omega)];rfl)
  |(exfalso;omega)
  |trace_state
theorem own:ownKnob Tryz.prog.godebug=none:=by kernel_rfl
theorem laidOut:laidOutB Tryz.prog=true:=by kernel_rfl
theorem qfz:Reads Tryz.prog 3 I64 (fun n=>[.int .i64 n]):=qpk Tryz.underlying3 (by kernel_rfl)
theorem qKz:Reads Tryz.prog 42 I64 (fun n=>[.int .i64 n]):=qpk Tryz.underlying42 (by kernel_rfl)
theorem qyN:Reads Tryz.prog 9 (fun s:ByteArray=>s.size≤maxLen) (fun s=>[.str s]):=qwA Tryz.underlying9 (by kernel_rfl)
theorem qIb:Reads Tryz.prog 22 (fun l:List Int=>l.length≤maxLen∧∀a∈l,I64 a) (fun l=>[.sl (l.map qal)]):=qbe Tryz.underlying22 qfz (k:=1) (by kernel_rfl) (by decide) (by kernel_rfl)
theorem qIc:Reads Tryz.prog 188 (fun l:List Int=>l.length≤maxLen∧∀a∈l,I64 a) (fun l=>[.sl (l.map qal)]):=qbe Tryz.underlying188 qKz (k:=1) (by kernel_rfl) (by decide) (by kernel_rfl)
theorem qId:Reads Tryz.prog 108 (fun x:Geo.Pt=>True) Geo.encPt:=
 (qaL Tryz.underlying108 (by kernel_rfl) (qah (k:=1) qfz (by kernel_rfl) rfl (qah (k:=1) qfz (by kernel_rfl) rfl qa7))).map
  (fun x=>⟨x.1,x.2.1⟩) (fun _ _=>rfl) (fun _ h=>trivial) fun _ _=>by kernel_rfl
theorem qIe:Reads Tryz.prog 102 (fun l:List Geo.Pt=>l.length≤maxLen∧∀a∈l,True) (fun l=>[.sl (l.map Geo.encPt)]):=qbe Tryz.underlying102 qId (k:=2) (by kernel_rfl) (by decide) (by kernel_rfl)
theorem qIf:Reads Tryz.prog 216 (fun x:Int×Int=>True) (fun x=>[.int .i64 x.1,.int .i64 x.2]):=
 (qaL Tryz.underlying216 (by kernel_rfl) (qah (k:=1) qfz (by kernel_rfl) rfl (qah (k:=1) qfz (by kernel_rfl) rfl qa7))).map (fun x=>(x.1,x.2.1)) (fun _ _=>rfl) (fun _ h=>trivial) fun _ _=>by kernel_rfl
theorem qIg:Reads Tryz.prog 218 (fun x:Soil=>True) qaG:=
 (qaL Tryz.underlying218 (by kernel_rfl) (qah (k:=1) qyN (by kernel_rfl) rfl (qah (k:=1) qfz (by kernel_rfl) rfl (qah (k:=1) qfz (by kernel_rfl) rfl (qah (k:=2) qIf (by kernel_rfl) rfl qa7))))).map
  (fun x=>⟨x.1,x.2.1,x.2.2.1,x.2.2.2.1.1,x.2.2.2.1.2⟩) (fun _ _=>rfl) (fun _ h=>trivial) fun _ _=>by kernel_rfl
theorem qFH:Reads Tryz.prog 25 (fun l:List Soil=>l.length≤maxLen∧∀a∈l,True) (fun l=>[.sl (l.map qaG)]):=qbe Tryz.underlying25 qIg (k:=5) (by kernel_rfl) (by decide) (by kernel_rfl)
theorem qFI:Reads Tryz.prog 220 (fun x:Layer=>True) qeZ:=
 (qaL Tryz.underlying220 (by kernel_rfl) (qah (k:=1) qfz (by kernel_rfl) rfl (qah (k:=1) qyN (by kernel_rfl) rfl qa7))).map
  (fun x=>⟨x.1,x.2.1⟩) (fun _ _=>rfl) (fun _ h=>trivial) fun _ _=>by kernel_rfl
theorem qDM:Reads Tryz.prog 136 (fun l:List Layer=>l.length≤maxLen∧∀a∈l,True) (fun l=>[.sl (l.map qeZ)]):=qbe Tryz.underlying136 qFI (k:=2) (by kernel_rfl) (by decide) (by kernel_rfl)
theorem qMf:Reads Tryz.prog 138 (fun x:Boring=>x.layers.length≤maxLen) qbG:=
 (qaL Tryz.underlying138 (by kernel_rfl) (qah (k:=1) qyN (by kernel_rfl) rfl (qah (k:=1) qfz (by kernel_rfl) rfl (qah (k:=1) qfz (by kernel_rfl) rfl (qah (k:=1) qDM (by kernel_rfl) rfl qa7))))).map
  (fun x=>⟨x.1,x.2.1,x.2.2.1,x.2.2.2.1⟩) (fun _ _=>rfl) (fun _ h=>h.2.2.2.1.1) fun _ _=>by kernel_rfl
theorem qIh:Reads Tryz.prog 26 (fun l:List Boring=>l.length≤maxLen∧∀a∈l,a.layers.length≤maxLen) (fun l=>[.sl (l.map qbG)]):=qbe Tryz.underlying26 qMf (k:=4) (by kernel_rfl) (by decide) (by kernel_rfl)
theorem qDN:Reads Tryz.prog 28 (fun x:Ground=>x.soils.length≤maxLen∧x.borings.length≤maxLen∧∀b∈x.borings,b.layers.length≤maxLen) qam:=
 (qaL Tryz.underlying28 (by kernel_rfl) (qah (k:=1) qFH (by kernel_rfl) rfl (qah (k:=1) qIh (by kernel_rfl) rfl qa7))).map
  (fun x=>⟨x.1,x.2.1⟩) (fun _ _=>rfl) (fun _ h=>⟨h.1.1,h.2.1⟩) fun _ _=>by kernel_rfl
theorem qFJ:Reads Tryz.prog 24 (fun x:Grid=>x.levels.length≤maxLen) qag:=
 (qaL Tryz.underlying24 (by kernel_rfl) (qah (k:=1) qfz (by kernel_rfl) rfl (qah (k:=1) qfz (by kernel_rfl) rfl (qah (k:=1) qfz (by kernel_rfl) rfl (qah (k:=1) qfz (by kernel_rfl) rfl (qah (k:=1) qfz (by kernel_rfl) rfl (qah (k:=1) qIb (by kernel_rfl) rfl qa7))))))).map
  (fun x=>⟨x.1,x.2.1,x.2.2.1,x.2.2.2.1,x.2.2.2.2.1,x.2.2.2.2.2.1⟩) (fun _ _=>rfl) (fun _ h=>h.2.2.2.2.2.1.1) fun _ _=>by kernel_rfl
theorem qIi:Reads Tryz.prog 104 (fun x:qe7=>x.corners.length≤maxLen) qbw:=
 (qaL Tryz.underlying104 (by kernel_rfl) (qah (k:=1) qyN (by kernel_rfl) rfl (qah (k:=1) qfz (by kernel_rfl) rfl (qah (k:=1) qIe (by kernel_rfl) rfl qa7)))).map
  (fun x=>⟨x.1,x.2.1,x.2.2.1⟩) (fun _ _=>rfl) (fun _ h=>h.2.2.1.1) fun _ _=>by kernel_rfl
theorem qFK:Reads Tryz.prog 29 (fun l:List qe7=>l.length≤maxLen∧∀a∈l,a.corners.length≤maxLen) (fun l=>[.sl (l.map qbw)]):=qbe Tryz.underlying29 qIi (k:=3) (by kernel_rfl) (by decide) (by kernel_rfl)
theorem qIj:Reads Tryz.prog 110 (fun x:Quay=>True) qct:=
 (qaL Tryz.underlying110 (by kernel_rfl) (qah (k:=1) qyN (by kernel_rfl) rfl (qah (k:=2) qId (by kernel_rfl) rfl (qah (k:=2) qId (by kernel_rfl) rfl (qah (k:=1) qfz (by kernel_rfl) rfl (qah (k:=1) qfz (by kernel_rfl) rfl qa7)))))).map
  (fun x=>⟨x.1,x.2.1,x.2.2.1,x.2.2.2.1,x.2.2.2.2.1⟩) (fun _ _=>rfl) (fun _ h=>trivial) fun _ _=>by kernel_rfl
theorem qFL:Reads Tryz.prog 30 (fun l:List Quay=>l.length≤maxLen∧∀a∈l,True) (fun l=>[.sl (l.map qct)]):=qbe Tryz.underlying30 qIj (k:=7) (by kernel_rfl) (by decide) (by kernel_rfl)
theorem qIk:Reads Tryz.prog 222 (fun x:Mark=>True) qfa:=
 (qaL Tryz.underlying222 (by kernel_rfl) (qah (k:=1) qfz (by kernel_rfl) rfl (qah (k:=1) qfz (by kernel_rfl) rfl qa7))).map
  (fun x=>⟨x.1,x.2.1⟩) (fun _ _=>rfl) (fun _ h=>trivial) fun _ _=>by kernel_rfl
theorem qFM:Reads Tryz.prog 139 (fun l:List Mark=>l.length≤maxLen∧∀a∈l,True) (fun l=>[.sl (l.map qfa)]):=qbe Tryz.underlying139 qIk (k:=2) (by kernel_rfl) (by decide) (by kernel_rfl)
theorem qFN:Reads Tryz.prog 141 (fun x:Gauge=>x.marks.length≤maxLen) qax:=
 (qaL Tryz.underlying141 (by kernel_rfl) (qah (k:=1) qyN (by kernel_rfl) rfl (qah (k:=1) qfz (by kernel_rfl) rfl (qah (k:=1) qfz (by kernel_rfl) rfl (qah (k:=1) qFM (by kernel_rfl) rfl qa7))))).map
  (fun x=>⟨x.1,x.2.1,x.2.2.1,x.2.2.2.1⟩) (fun _ _=>rfl) (fun _ h=>h.2.2.2.1.1) fun _ _=>by kernel_rfl
theorem qDO:Reads Tryz.prog 31 (fun l:List Gauge=>l.length≤maxLen∧∀a∈l,a.marks.length≤maxLen) (fun l=>[.sl (l.map qax)]):=qbe Tryz.underlying31 qFN (k:=4) (by kernel_rfl) (by decide) (by kernel_rfl)
theorem qIl:Reads Tryz.prog 146 (fun x:Outp=>True) qb3:=
 (qaL Tryz.underlying146 (by kernel_rfl) (qah (k:=1) qyN (by kernel_rfl) rfl (qah (k:=1) qfz (by kernel_rfl) rfl (qah (k:=1) qfz (by kernel_rfl) rfl qa7)))).map
  (fun x=>⟨x.1,x.2.1,x.2.2.1⟩) (fun _ _=>rfl) (fun _ h=>trivial) fun _ _=>by kernel_rfl
theorem qFO:Reads Tryz.prog 35 (fun l:List Outp=>l.length≤maxLen∧∀a∈l,True) (fun l=>[.sl (l.map qb3)]):=qbe Tryz.underlying35 qIl (k:=3) (by kernel_rfl) (by decide) (by kernel_rfl)
theorem qIm:Reads Tryz.prog 37 (fun x:Dred=>x.outs.length≤maxLen) qa4:=
 (qaL Tryz.underlying37 (by kernel_rfl) (qah (k:=1) qyN (by kernel_rfl) rfl (qah (k:=1) qfz (by kernel_rfl) rfl (qah (k:=1) qfz (by kernel_rfl) rfl (qah (k:=1) qfz (by kernel_rfl) rfl (qah (k:=1) qfz (by kernel_rfl) rfl (qah (k:=1) qfz (by kernel_rfl) rfl (qah (k:=1) qfz (by kernel_rfl) rfl (qah (k:=1) qFO (by kernel_rfl) rfl qa7))))))))).map
  (fun x=>⟨x.1,x.2.1,x.2.2.1,x.2.2.2.1,x.2.2.2.2.1,x.2.2.2.2.2.1,x.2.2.2.2.2.2.1,x.2.2.2.2.2.2.2.1⟩) (fun _ _=>rfl) (fun _ h=>h.2.2.2.2.2.2.2.1.1) fun _ _=>by kernel_rfl
theorem qFP:Reads Tryz.prog 32 (fun l:List Dred=>l.length≤maxLen∧∀a∈l,a.outs.length≤maxLen) (fun l=>[.sl (l.map qa4)]):=qbe Tryz.underlying32 qIm (k:=8) (by kernel_rfl) (by decide) (by kernel_rfl)
structure Wide(s:Site):Prop where
 lv:s.bed.levels.length≤9223372036854775807
 so:s.ground.soils.length≤9223372036854775807
 bo:s.ground.borings.length≤9223372036854775807
 la:∀b∈s.ground.borings,b.layers.length≤9223372036854775807
 zo:s.zones.length≤9223372036854775807
 co:∀z∈s.zones,z.corners.length≤9223372036854775807
 qu:s.quays.length≤9223372036854775807
 ga:s.gauges.length≤9223372036854775807
 ma:∀g∈s.gauges,g.marks.length≤9223372036854775807
 dr:s.dreds.length≤9223372036854775807
 ou:∀d∈s.dreds,d.outs.length≤9223372036854775807
theorem lm{n:Nat}(h:n≤maxLen):n≤9223372036854775807:=Nat.le_trans h (by decide)
theorem qyO:Reads Tryz.prog 34 (fun x:Site=>Wide x) encSite:=
 (qaL Tryz.underlying34 (by kernel_rfl) (qah (k:=6) qFJ (by kernel_rfl) rfl (qah (k:=2) qDN (by kernel_rfl) rfl (qah (k:=1) qFK (by kernel_rfl) rfl (qah (k:=1) qFL (by kernel_rfl) rfl (qah (k:=1) qDO (by kernel_rfl) rfl (qah (k:=1) qFP (by kernel_rfl) rfl qa7))))))).map
  (fun x=>⟨x.1,x.2.1,x.2.2.1,x.2.2.2.1,x.2.2.2.2.1,x.2.2.2.2.2.1⟩) (fun _ _=>rfl) (fun _ h=>⟨lm h.1,lm h.2.1.1,lm h.2.1.2.1,fun b hb=>lm (h.2.1.2.2 b hb),lm h.2.2.1.1,fun z hz=>lm (h.2.2.1.2 z hz),lm h.2.2.2.1.1,lm h.2.2.2.2.1.1,fun g hg=>lm (h.2.2.2.2.1.2 g hg),lm h.2.2.2.2.2.1.1,fun d hd=>lm (h.2.2.2.2.2.1.2 d hd)⟩) fun _ _=>by kernel_rfl
theorem qKA:Reads Tryz.prog 51 (fun x:Cut=>True) encCut:=
 (qaL Tryz.underlying51 (by kernel_rfl) (qah (k:=1) qyN (by kernel_rfl) rfl (qah (k:=1) qyN (by kernel_rfl) rfl (qah (k:=1) qfz (by kernel_rfl) rfl (qah (k:=1) qfz (by kernel_rfl) rfl (qah (k:=1) qfz (by kernel_rfl) rfl (qah (k:=1) qfz (by kernel_rfl) rfl (qah (k:=1) qfz (by kernel_rfl) rfl (qah (k:=1) qfz (by kernel_rfl) rfl qa7))))))))).map
  (fun x=>⟨x.1,x.2.1,x.2.2.1,x.2.2.2.1,x.2.2.2.2.1,x.2.2.2.2.2.1,x.2.2.2.2.2.2.1,x.2.2.2.2.2.2.2.1⟩) (fun _ _=>rfl) (fun _ h=>trivial) fun _ _=>by kernel_rfl
theorem qDP:Reads Tryz.prog 38 (fun l:List Cut=>l.length≤maxLen∧∀a∈l,True) (fun l=>[.sl (l.map encCut)]):=qbe Tryz.underlying38 qKA (k:=8) (by kernel_rfl) (by decide) (by kernel_rfl)
end Go.Pv.Soil

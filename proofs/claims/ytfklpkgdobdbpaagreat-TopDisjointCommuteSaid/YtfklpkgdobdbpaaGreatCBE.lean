import Derived.Test.YtfklpkgdobdbpaaGreatCBC
/- Part of the proofs over YtfklpkgdobdbpaaGreat: N26. -/
set_option linter.unusedVariables false
set_option linter.unusedSimpArgs false
set_option linter.unnecessarySimpa false
open Go Go.Proofs Go.Pv
set_option maxHeartbeats 8000000
set_option maxRecDepth 100000
set_option linter.unusedSimpArgs false
set_option linter.unusedVariables false
namespace Go.Pv.Soil
def qC9(r c:Int):D:=.iface 248 (.agg [.int .i64 r,.int .i64 c])
def qk1(d:Dred)(c:Cut):Prop:=(d.kind=1∧min c.cols c.rows≤d.across∧d.along≤max c.cols c.rows)∨(d.kind≠1∧((c.cols≤d.across∧c.rows≤d.along)∨(d.kind=2∧c.cols≤d.along∧c.rows≤d.across)))
instance (d:Dred)(c:Cut):Decidable (qk1 d c):=by unfold qk1;infer_instance
def qnh(d:Dred)(c:Cut):Bool:=decide (qk1 d c)
theorem qzD{d:Dred}{c:Cut}(h:qk1 d c):qnh d c=true:=decide_eq_true h
theorem qzE{d:Dred}{c:Cut}(h:¬qk1 d c):qnh d c=false:=decide_eq_false h
theorem qDa(d:Dred)(c:Cut):Contract Tryz.prog 109 [.agg (encDred d),.agg (encCut c)] (.ret (.bool (qnh d c))):=by
 refine zT mix Tryz.func109 Tryz.ntmps109 Tryz.results109 rfl rfl rfl ?_;simp only[qac,Nat.reduceAdd]
 repeat'(first|refine zQ ?_|(refine zC ?_ ?_<;>first|intro h|simp)|(refine zG ?_ ?_<;>first|intro h|simp)|refine zE ?_|fail)
 all_goals first
  |exact decide_eq_decide.2 (by unfold qk1;omega)
  |exact(qzE (by unfold qk1;omega)).symm
  |exact(qzD (by unfold qk1;omega)).symm
  |trace_state
def qbp(s:Site)(b:Grid)(c:Cut)(d:Dred)(cells:List Nat)(a:Grid)(low:List Nat)(f t:Int):List D:=encSite s++encGrid b++encCut c++encDred d++[.sl (cells.map qcX)]++encGrid a++[.sl (low.map qcX),.int .i64 f,.int .i64 t]
theorem qDb(s:Site)(b:Grid)(c:Cut)(d:Dred)(cells:List Nat)(a:Grid)(low:List Nat)(f t:Int):Contract Tryz.prog 242 [.ptr (qbp s b c d cells a low f t)] (.ret (.bool (qnh d c))):=by
 refine zT mix Tryz.func242 Tryz.ntmps242 Tryz.results242 rfl rfl rfl ?_;simp only[qac,Nat.reduceAdd]
 repeat'(first|((with_reducible apply qao);rfl;rfl)|((with_reducible apply(qba 10 [[4,5,6,7],[]]));decide +kernel;rfl)|(with_reducible apply qa1)|(with_reducible apply qax)|(with_reducible apply qav)|(with_reducible apply qb1)|(with_reducible apply qaF)|(with_reducible apply qc4)|(with_reducible apply qay)|((with_reducible apply qbn);rfl;(intro id'))|((with_reducible apply qa2);rfl)|refine zS ?_|refine zA ?_|(refine zC ?_ ?_<;>first|intro h|simp)|(refine zG ?_ ?_<;>first|intro h|simp)|refine zE ?_|fail)
 all_goals first
  |exact decide_eq_decide.2 (by unfold qk1;omega)
  |exact(qzE (by unfold qk1;omega)).symm
  |exact(qzD (by unfold qk1;omega)).symm
  |trace_state
theorem qwd(xs:List D)(ok:Bool)(r c:Int):Contract Tryz.prog 241 [.ptr xs,.bool ok,.int .i64 r,.int .i64 c] (qGl ok (.tup []) (qC9 r c)):=by
 cases ok
 ·refine zT mix Tryz.func241 Tryz.ntmps241 Tryz.results241 rfl rfl rfl ?_;simp only[qac,Nat.reduceAdd]
  repeat'(first|((with_reducible apply qpU);(exact(Tryz.underlying248));rfl;rfl;rfl)|((with_reducible apply qxL);rfl;rfl)|(with_reducible apply qaQ)|refine zS ?_|refine zA ?_|fail)
  all_goals first|exact qbM rfl|trace_state
 ·refine zT mix Tryz.func241 Tryz.ntmps241 Tryz.results241 rfl rfl rfl ?_;simp only[qac,Nat.reduceAdd]
  repeat'(first|refine zQ ?_|fail)
  all_goals first|exact qjz|trace_state
theorem qDc:qiH qbt 3:=fun _=>⟨rfl,rfl,rfl⟩
def qiM(d:Dred)(l:List Part):Bool:= !l.any fun x=>decide (qgD d x.soil<0)
def qd5(s:Site)(b:Grid)(c:Cut)(i:Nat):Bool:=qiM (dredOf s c.dredger) (qaD s.ground (qap b i) (lv b.levels i) c.level)
theorem qoX(g:Ground)(p:Pt)(f t:Int)(h:OkG g):(qaD g p f t).length≤1000:=by
 have hn:=qeJ (p:=p) h.n.1
 have hll:=(h.bor _ hn).len
 simp only[qaD,List.getElem?_eq_getElem hn]
 have:=qhP g.borings[qbg g p] f t g.borings[qbg g p].layers.length
 omega
theorem qtp(s:Site)(b:Grid)(c:Cut)(d:Dred)(cells:List Nat)(a:Grid)(low:List Nat)(f t:Int)(hd:OkDred d)(x:Part):Contract Tryz.prog 274 [.agg (qbt x),.ptr [.ptr (qbp s b c d cells a low f t)]] (.ret (.bool (decide (qgD d x.soil<0)))):=by
 have h1:=qrI d (by have:=hd.l;omega) x.soil
 generalize qcy d x.soil=o at h1
 refine zT mix Tryz.func274 Tryz.ntmps274 Tryz.results274 rfl rfl rfl ?_;simp only[qac,Nat.reduceAdd]
 repeat'(first|((with_reducible apply qao);rfl;rfl)|((with_reducible apply(qba 11 [[9],[]]));decide +kernel;rfl)|(with_reducible apply qa1)|(with_reducible apply qax)|(with_reducible apply qav)|(with_reducible apply qb1)|(with_reducible apply qaF)|(with_reducible apply qc4)|(with_reducible apply qay)|((with_reducible apply qbn);rfl;(intro id'))|((with_reducible apply qa2);rfl)|refine zS ?_|refine zA ?_|refine zF h1 ?_|refine zE ?_|fail)
 rw[←decide_not];exact decide_eq_decide.2 (by omega)
theorem qwe(s:Site)(hz:Sized s)(hs:OkSite s)(b:Grid)(hb:OkBed s b)(c:Cut)(hc:OkCut s c)(cells:List Nat)(a:Grid)(low:List Nat)(f t:Int)(i:Nat)(hi:i<b.levels.length)(hk:c.level≤lv b.levels i)(hu:lv b.levels i≠30000):
  Contract Tryz.prog 243 [.ptr (qbp s b c (dredOf s c.dredger) cells a low f t),.int .i64 i] (.ret (.bool (qd5 s b c i))):=by
 have h1:=c74 b hb.ok i hi hb.er
 have hlv:=qbu hi
 have h2:=c42 s.ground hz.so hz.bo (qap b i) (lv b.levels i) c.level
 have hD:=hs.dredOf hc
 have hg:=okG hs.gr
 have hcl:=qoX s.ground (qap b i) (lv b.levels i) c.level hg
 have e:qd2 s.ground (qap b i) (lv b.levels i) c.level=(qaD s.ground (qap b i) (lv b.levels i) c.level,0):=by
  have h0:gpE s.ground (qap b i)=0:=by unfold gpE;rw[if_neg (not_not_intro hs.gr),qda hb.ok hi];rfl
  have hl1:qhp (lv b.levels i)=true:=by have:=hb.ok.lvl i hi;rw[←hlv]at this;exact this.resolve_left hu
  have hl2:qhp c.level=true:=decide_eq_true hc.lvl
  rw[qd2,qxT (l:=[_,_]) h0]
  simp[hl1,hl2]
  omega
 rw[e]at h2
 have h2:Contract Tryz.prog 272 [.agg (qam s.ground),.agg (encPt (qap b i)),.int .i64 (lv b.levels i),.int .i64 c.level] (.ret (.tup [.sl ((qaD s.ground (qap b i) (lv b.levels i) c.level).map qbt),.int .i64 0])):=qq2 qDc h2
 rw[hlv]at h2
 have h3:=qx5 (qaD s.ground (qap b i) (lv b.levels i) c.level) (by omega) 274 [.ptr [.ptr (qbp s b c (dredOf s c.dredger) cells a low f t)]] (fun _ _=>rfl) rfl (fun x=>decide (qgD (dredOf s c.dredger) x.soil<0)) fun x _=>qtp s b c _ cells a low f t hD x
 unfold qd5
 rw[hlv]at h3 hcl ⊢
 generalize qaD s.ground (qap b i) b.levels[i] c.level=co at*
 refine zT mix Tryz.func243 Tryz.ntmps243 Tryz.results243 rfl rfl rfl ?_;simp only[qac,Nat.reduceAdd]
 repeat'(first|((with_reducible apply qao);rfl;rfl)|refine zS ?_|refine zA ?_|refine zF h1 ?_|refine zF h2 ?_|refine zF h3 ?_|(refine zI ?_;intro hlt)|refine zE ?_|fail)
 all_goals first|rfl|trace_state
end Go.Pv.Soil

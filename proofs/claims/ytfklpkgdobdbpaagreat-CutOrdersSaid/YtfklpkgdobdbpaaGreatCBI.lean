import Derived.Test.YtfklpkgdobdbpaaGreatCBE
import Derived.Test.YtfklpkgdobdbpaaGreatCBH
/- Part of the proofs over YtfklpkgdobdbpaaGreat: N25, N26. -/
set_option linter.unusedVariables false
set_option linter.unusedSimpArgs false
set_option linter.unnecessarySimpa false
open Go Go.Proofs Go.Pv
set_option maxHeartbeats 8000000
set_option maxRecDepth 100000
set_option linter.unusedSimpArgs false
set_option linter.unusedVariables false
namespace Go.Pv.Soil
def loG(m:Grid)(i:Nat):Geo.Pt:=⟨m.x+(i:Int)%m.cols*m.side,m.y+(i:Int)/m.cols*m.side⟩
def hiG(m:Grid)(i:Nat):Geo.Pt:=⟨m.x+(i:Int)%m.cols*m.side+m.side,m.y+(i:Int)/m.cols*m.side+m.side⟩
theorem qBE{m:Grid}(h:OkGrid m){i:Nat}(hi:i<m.levels.length):Geo.ptOK (loG m i)=true∧Geo.ptOK (hiG m i)=true:=by
 have hc:=qdn h hi
 have hb:=h.bds
 have hsm:=h.small
 have he:=h.ends
 have e1:=Int.mul_le_mul_of_nonneg_right (show(i:Int)%m.cols+1≤m.cols by omega) (show 0≤m.side by omega)
 have e2:=Int.mul_le_mul_of_nonneg_right (show(i:Int)/m.cols+1≤m.rows by omega) (show 0≤m.side by omega)
 rw[Int.add_mul,Int.one_mul]at e1 e2
 refine⟨decide_eq_true ?_,decide_eq_true ?_⟩<;>simp only[loG,hiG]<;>omega
theorem qrt(m:Grid)(h:OkGrid m)(i:Nat)(hi:i<m.levels.length):Contract Tryz.prog 204 [.agg (qag m),.int .i64 i] (.ret (.tup [.agg (Geo.encPt (loG m i)),.agg (Geo.encPt (hiG m i))])):=by
 have hc:=qdn h hi
 have hb:=h.bds
 have hsm:=h.small
 have he:=h.ends
 refine zT mix Tryz.func204 Tryz.ntmps204 Tryz.results204 rfl rfl rfl ?_;simp only[qab,Nat.reduceAdd]
 repeat'(first|((with_reducible apply(qaS 12 [[3,4,5,6,7,8,9,10,11],[]]));decide +kernel;rfl)|(with_reducible apply qaR)|(with_reducible apply qav)|(with_reducible apply qas)|(with_reducible apply qby)|(with_reducible apply qaA)|(with_reducible apply qcv)|(with_reducible apply qaw)|((with_reducible apply qa9);rfl;(intro id'))|((with_reducible apply qaT);rfl)|refine zS ?_|refine zA ?_|refine zE ?_|fail)
 all_goals first|rfl|trace_state
def qdy(m:Grid)(i:Nat)(z:qe7):Bool:=Geo.touchE z.corners (loG m i) (hiG m i)
theorem qpZ(m:Grid)(h:OkGrid m)(i:Nat)(hi:i<m.levels.length)(z:qe7)(hz:Geo.polyE z.corners=0):Contract Tryz.prog 145 [.agg (qag m),.int .i64 i,.agg (qbw z)] (.ret (.bool (qdy m i z))):=by
 have h1:=qrt m h i hi
 have h2:=Geo.c_Touches z.corners (loG m i) (hiG m i)
 have e:Geo.touchX z.corners (loG m i) (hiG m i)=(qdy m i z,0):=by
  have hb:=h.bds
  obtain⟨o1,o2⟩:=qBE h hi
  rw[Geo.touchX,if_neg (by omega),if_neg (by rw[o1,o2];simp),if_neg (by simp only[loG,hiG];omega)]
  rfl
 rw[e]at h2
 refine zT mix Tryz.func145 Tryz.ntmps145 Tryz.results145 rfl rfl rfl ?_;simp only[qab,Nat.reduceAdd]
 repeat'(first|(with_reducible rfl)|refine zQ ?_|refine zF h1 ?_|refine zF h2 ?_|refine zE ?_|fail)
 all_goals trace_state
theorem qru(m:Grid)(h:OkGrid m)(i:Nat)(hi:i<m.levels.length)(z:qe7)(hz:Geo.polyE z.corners=0):Contract Tryz.prog 61 [.agg (qag m),.int .i64 i,.agg (qbw z)] (.ret (.bool (qdy m i z))):=by
 have hc:=qdn h hi
 have hb:=h.bds
 have hsm:=h.small
 have he:=h.ends
 obtain⟨o1,o2⟩:=qBE h hi
 have h2:Contract Tryz.prog 138 [.sl (z.corners.map Geo.encPt),.agg [.int .i64 (m.x+(i:Int)%m.cols*m.side),.int .i64 (m.y+(i:Int)/m.cols*m.side)],.agg [.int .i64 (m.x+(i:Int)%m.cols*m.side+m.side),.int .i64 (m.y+(i:Int)/m.cols*m.side+m.side)]] (.ret (.bool (qdy m i z))):=Geo.c_rTouches z.corners (loG m i) (hiG m i) hz o1 o2
 refine zT mix Tryz.func61 Tryz.ntmps61 Tryz.results61 rfl rfl rfl ?_;simp only[qab,Nat.reduceAdd]
 repeat'(first|(with_reducible rfl)|refine zQ ?_|refine zF h2 ?_|refine zE ?_|fail)
 all_goals trace_state
theorem OkSite.zone{s:Site}(h:OkSite s):s.zones.length≤10∧∀i (hi:i<s.zones.length),Geo.polyE s.zones[i].corners=0:=by
 have h1:=h.zo
 unfold qdZ at h1
 split at h1
 ·omega
 ·exact⟨by omega,fun i hi=>(qgt h1 hi).2⟩
def qd2(s:Site)(i:Nat):Bool:=s.zones.any (qdy s.bed i)
theorem qp0(s:Site)(h:OkSite s)(i:Nat)(hi:i<s.bed.levels.length)(z:qe7)(hz:Geo.polyE z.corners=0):Contract Tryz.prog 207 [.agg (qbw z),.ptr (encSite s),.ptr [.int .i64 i]] (.ret (.bool (qdy s.bed i z))):=by
 have h1:Contract Tryz.prog 145 [.agg (qag s.bed),.int .i64 i,.agg (qbw z)] (.ret (.bool (qdy s.bed i z))):=qpZ s.bed h.bed i hi z hz
 refine zT mix Tryz.func207 Tryz.ntmps207 Tryz.results207 rfl rfl rfl ?_;simp only[qab,Nat.reduceAdd]
 repeat'(first|(with_reducible rfl)|refine zQ ?_|refine zF h1 ?_|refine zE ?_|fail)
 all_goals trace_state
theorem qlJ(s:Site)(h:OkSite s)(i:Nat)(hi:i<s.bed.levels.length):Contract Tryz.prog 146 [.agg (encSite s),.int .i64 i] (.ret (.bool (qd2 s i))):=by
 have hz:=h.zone
 have h1:=qzW s.zones (by omega) 207 [.ptr (encSite s),.ptr [.int .i64 i]] (fun _ _=>rfl) rfl (qdy s.bed i) fun z hz'=>by
  obtain⟨j,hj,rfl⟩:=List.mem_iff_getElem.1 hz'
  exact qp0 s h i hi _ (hz.2 j hj)
 refine zT mix Tryz.func146 Tryz.ntmps146 Tryz.results146 rfl rfl rfl ?_;simp only[qab,Nat.reduceAdd]
 repeat'(first|refine zQ ?_|refine zF h1 ?_|refine zE ?_|fail)
 all_goals first|rfl|trace_state
noncomputable def qBF(st:Int×Bool)(v:Int):Int×Bool:=if v≠30000∧(st.2=false∨st.1<v)then(v,true)else st
theorem qxU{st:Int×Bool}{v:Int}(h:¬v=30000)(h2:st.1<v):qBF st v=(v,true):=if_pos ⟨h,.inr h2⟩
theorem qxV{st:Int×Bool}{v:Int}(h:¬v=30000)(h2:st.2=false):qBF st v=(v,true):=if_pos ⟨h,.inl h2⟩
theorem qxW{st:Int×Bool}{v:Int}(h:v=30000):qBF st v=st:=if_neg fun hh=>hh.1 h
theorem qxX{st:Int×Bool}{v:Int}(h:st.2=true)(h2:¬st.1<v):qBF st v=st:=if_neg fun hh=>hh.2.elim (by rw[h];simp) h2
noncomputable def qqE(s:Site)(i j:Nat):Int×Bool:=(s.quays.take j).foldl (fun st q=>qBF st (qhh q s.bed i)) (0,false)
noncomputable def qtl(s:Site)(i:Nat):Int×Bool:=qqE s i s.quays.length
theorem qlK{s:Site}{i j:Nat}(hj:j<s.quays.length):qqE s i (j+1)=qBF (qqE s i j) (qhh s.quays[j] s.bed i):=by
 unfold qqE
 rw[List.take_succ_eq_append_getElem hj,List.foldl_append];rfl
theorem OkSite.quay{s:Site}(h:OkSite s):s.quays.length≤5∧∀i (hi:i<s.quays.length),qe8 s.quays[i]=0:=by
 have h1:=h.qu
 unfold qeb at h1
 split at h1
 ·omega
 ·refine⟨by omega,fun i hi=>?_⟩
  have:=qde h1 i hi
  simp only[qlr,List.getElem?_eq_getElem hi]at this
  split at this
  ·contradiction
  ·rename_i h2;exact Classical.not_not.1 h2
theorem qxY(s:Site)(h:OkSite s)(i:Nat)(hi:i<s.bed.levels.length):Contract Tryz.prog 147 [.agg (encSite s),.int .i64 i] (.ret (.tup [.int .i64 (qtl s i).1,.bool (qtl s i).2])):=by
 have hq:=h.quay
 have hsm:=h.bed.small
 refine zT mix Tryz.func147 Tryz.ntmps147 Tryz.results147 rfl rfl rfl ?_;simp only[qab,Nat.reduceAdd]
 repeat'(first|refine zQ ?_|fail)
 refine qad s.quays.length (fun j=>⟨[(6,.int .i64 (qqE s i j).1),(7,.bool (qqE s i j).2),(16,.int .i64 j),(15,.int .i64 s.quays.length),(14,.sl (s.quays.map qct)),(1,.int .i64 i),(2,.op 0 0 0)],[(0,⟨12,true,[encSite s]⟩)],32,47⟩) (fun j=>True) (qaa (nx:=32) (k:=0) (ns:=[]) (ks:=[6,7,16,15,14,1,2]) [(0,0)] rfl (by simp) (by kernel_rfl)) trivial ?_
 intro j hj _
 by_cases hL:j<s.quays.length
 ·have h1:Contract Tryz.prog 208 [.agg (qct s.quays[j]),.agg (qag s.bed)] (.ret (.tup [.agg (qu6 s.bed++[.sl ((qmr s.quays[j] s.bed s.bed.levels.length s.bed.levels.length).map qal)]),.int .i64 0])):=qEV qrk (qMd _ (hq.2 j hL) s.bed h.bed h.be (by omega))
  have hwl:=qol (q:=s.quays[j]) (m:=s.bed) (n:=s.bed.levels.length) (i:=s.bed.levels.length)
  have hst:=qlK (i:=i) hL
  have hat:∀(hh:i<(qmr s.quays[j] s.bed s.bed.levels.length s.bed.levels.length).length),(qmr s.quays[j] s.bed s.bed.levels.length s.bed.levels.length)[i]'hh=qhh s.quays[j] s.bed i:=fun hh=>by simp[qmr,hi]
  generalize qmr s.quays[j] s.bed s.bed.levels.length s.bed.levels.length=wl at*
  have hii:i<wl.length:=by omega
  have hat:=hat hii
  rw[←hat]at hst
  repeat'(first|refine zQ ?_|refine zF h1 ?_|(refine zI ?_;intro hlt)|(refine zC ?_ ?_<;>first|intro h|simp)|(refine zG ?_ ?_<;>first|intro h|simp)|refine zE ?_|fail)
  all_goals first
   |exact absurd hL (by omega)
   |(refine⟨hL,trivial,?_⟩
     rw[hst]
     first
      |rw[qxU (by assumption) (by assumption)]
      |rw[qxV (by assumption) (by assumption)]
      |rw[qxW (by assumption)]
      |rw[qxX (by assumption) (by assumption)]
     exact qaa (nx:=32) (k:=0) (ns:=[]) (ks:=[6,7,16,15,14,1,2]) [(0,0)] rfl (by simp) (by kernel_rfl))
   |trace_state
 ·repeat'(first|refine zQ ?_|(refine zI ?_;intro hlt)|(refine zC ?_ ?_<;>first|intro h|simp)|refine zE ?_|fail)
  all_goals first
   |exact absurd hL (by omega)
   |(obtain rfl:j=s.quays.length:=by omega
     rfl)
   |trace_state
def qFe(r c:Int):D:=.iface 248 (.agg [.int .i64 r,.int .i64 c])
def qlM(d:Dred)(c:Cut):Prop:=(d.kind=1∧min c.cols c.rows≤d.across∧d.along≤max c.cols c.rows)∨(d.kind≠1∧((c.cols≤d.across∧c.rows≤d.along)∨(d.kind=2∧c.cols≤d.along∧c.rows≤d.across)))
instance (d:Dred)(c:Cut):Decidable (qlM d c):=by unfold qlM;infer_instance
def qms(d:Dred)(c:Cut):Bool:=decide (qlM d c)
theorem qBJ{d:Dred}{c:Cut}(h:qlM d c):qms d c=true:=decide_eq_true h
theorem qBK{d:Dred}{c:Cut}(h:¬qlM d c):qms d c=false:=decide_eq_false h
theorem qFf(d:Dred)(c:Cut):Contract Tryz.prog 109 [.agg (qa4 d),.agg (encCut c)] (.ret (.bool (qms d c))):=by
 refine zT mix Tryz.func109 Tryz.ntmps109 Tryz.results109 rfl rfl rfl ?_;simp only[qab,Nat.reduceAdd]
 repeat'(first|refine zQ ?_|(refine zC ?_ ?_<;>first|intro h|simp)|(refine zG ?_ ?_<;>first|intro h|simp)|refine zE ?_|fail)
 all_goals first
  |exact decide_eq_decide.2 (by unfold qlM;omega)
  |exact(qBK (by unfold qlM;omega)).symm
  |exact(qBJ (by unfold qlM;omega)).symm
  |trace_state
def qbz(s:Site)(b:Grid)(c:Cut)(d:Dred)(cells:List Nat)(a:Grid)(low:List Nat)(f t:Int):List D:=encSite s++qag b++encCut c++qa4 d++[.sl (cells.map qcx)]++qag a++[.sl (low.map qcx),.int .i64 f,.int .i64 t]
theorem qFg(s:Site)(b:Grid)(c:Cut)(d:Dred)(cells:List Nat)(a:Grid)(low:List Nat)(f t:Int):Contract Tryz.prog 242 [.ptr (qbz s b c d cells a low f t)] (.ret (.bool (qms d c))):=by
 refine zT mix Tryz.func242 Tryz.ntmps242 Tryz.results242 rfl rfl rfl ?_;simp only[qab,Nat.reduceAdd]
 repeat'(first|((with_reducible apply qao);rfl;rfl)|((with_reducible apply(qaS 10 [[4,5,6,7],[]]));decide +kernel;rfl)|(with_reducible apply qaR)|(with_reducible apply qav)|(with_reducible apply qas)|(with_reducible apply qby)|(with_reducible apply qaA)|(with_reducible apply qcv)|(with_reducible apply qaw)|((with_reducible apply qa9);rfl;(intro id'))|((with_reducible apply qaT);rfl)|refine zS ?_|refine zA ?_|(refine zC ?_ ?_<;>first|intro h|simp)|(refine zG ?_ ?_<;>first|intro h|simp)|refine zE ?_|fail)
 all_goals first
  |exact decide_eq_decide.2 (by unfold qlM;omega)
  |exact(qBK (by unfold qlM;omega)).symm
  |exact(qBJ (by unfold qlM;omega)).symm
  |trace_state
theorem qx1(xs:List D)(ok:Bool)(r c:Int):Contract Tryz.prog 241 [.ptr xs,.bool ok,.int .i64 r,.int .i64 c] (qIw ok (.tup []) (qFe r c)):=by
 cases ok
 ·refine zT mix Tryz.func241 Tryz.ntmps241 Tryz.results241 rfl rfl rfl ?_;simp only[qab,Nat.reduceAdd]
  repeat'(first|((with_reducible apply qq7);(exact(Tryz.underlying248));rfl;rfl;rfl)|((with_reducible apply qzF);rfl;rfl)|(with_reducible apply qaW)|refine zS ?_|refine zA ?_|fail)
  all_goals first|exact qb2 rfl|trace_state
 ·refine zT mix Tryz.func241 Tryz.ntmps241 Tryz.results241 rfl rfl rfl ?_;simp only[qab,Nat.reduceAdd]
  repeat'(first|refine zQ ?_|fail)
  all_goals first|exact qke|trace_state
theorem qFh:qjg qbH 3:=fun _=>⟨rfl,rfl,rfl⟩
def qjm(d:Dred)(l:List Part):Bool:= !l.any fun x=>decide (qg5 d x.soil<0)
def qen(s:Site)(b:Grid)(c:Cut)(i:Nat):Bool:=qjm (dredOf s c.dredger) (qaI s.ground (qar b i) (lv b.levels i) c.level)
theorem qp2(g:Ground)(p:Pt)(f t:Int)(h:OkG g):(qaI g p f t).length≤1000:=by
 have hn:=qe9 (p:=p) h.n.1
 have hll:=(h.bor _ hn).len
 simp only[qaI,List.getElem?_eq_getElem hn]
 have:=qij g.borings[qbq g p] f t g.borings[qbq g p].layers.length
 omega
theorem qvb(s:Site)(b:Grid)(c:Cut)(d:Dred)(cells:List Nat)(a:Grid)(low:List Nat)(f t:Int)(hd:OkDred d)(x:Part):Contract Tryz.prog 274 [.agg (qbH x),.ptr [.ptr (qbz s b c d cells a low f t)]] (.ret (.bool (decide (qg5 d x.soil<0)))):=by
 have h1:=qta d (by have:=hd.l;omega) x.soil
 generalize qcO d x.soil=o at h1
 refine zT mix Tryz.func274 Tryz.ntmps274 Tryz.results274 rfl rfl rfl ?_;simp only[qab,Nat.reduceAdd]
 repeat'(first|((with_reducible apply qao);rfl;rfl)|((with_reducible apply(qaS 11 [[9],[]]));decide +kernel;rfl)|(with_reducible apply qaR)|(with_reducible apply qav)|(with_reducible apply qas)|(with_reducible apply qby)|(with_reducible apply qaA)|(with_reducible apply qcv)|(with_reducible apply qaw)|((with_reducible apply qa9);rfl;(intro id'))|((with_reducible apply qaT);rfl)|refine zS ?_|refine zA ?_|refine zF h1 ?_|refine zE ?_|fail)
 rw[←decide_not];exact decide_eq_decide.2 (by omega)
theorem qx2(s:Site)(hz:Sized s)(hs:OkSite s)(b:Grid)(hb:OkBed s b)(c:Cut)(hc:OkCut s c)(cells:List Nat)(a:Grid)(low:List Nat)(f t:Int)(i:Nat)(hi:i<b.levels.length)(hk:c.level≤lv b.levels i)(hu:lv b.levels i≠30000):
  Contract Tryz.prog 243 [.ptr (qbz s b c (dredOf s c.dredger) cells a low f t),.int .i64 i] (.ret (.bool (qen s b c i))):=by
 have h1:=c74 b hb.ok i hi hb.er
 have hlv:=qbv hi
 have h2:=c42 s.ground hz.so hz.bo (qar b i) (lv b.levels i) c.level
 have hD:=hs.dredOf hc
 have hg:=okG hs.gr
 have hcl:=qp2 s.ground (qar b i) (lv b.levels i) c.level hg
 have e:qel s.ground (qar b i) (lv b.levels i) c.level=(qaI s.ground (qar b i) (lv b.levels i) c.level,0):=by
  have h0:gpE s.ground (qar b i)=0:=by unfold gpE;rw[if_neg (not_not_intro hs.gr),qdr hb.ok hi];rfl
  have hl1:qhQ (lv b.levels i)=true:=by have:=hb.ok.lvl i hi;rw[←hlv]at this;exact this.resolve_left hu
  have hl2:qhQ c.level=true:=decide_eq_true hc.lvl
  rw[qel,qzN (l:=[_,_]) h0]
  simp[hl1,hl2]
  omega
 rw[e]at h2
 have h2:Contract Tryz.prog 272 [.agg (qam s.ground),.agg (encPt (qar b i)),.int .i64 (lv b.levels i),.int .i64 c.level] (.ret (.tup [.sl ((qaI s.ground (qar b i) (lv b.levels i) c.level).map qbH),.int .i64 0])):=qsu qFh h2
 rw[hlv]at h2
 have h3:=qzY (qaI s.ground (qar b i) (lv b.levels i) c.level) (by omega) 274 [.ptr [.ptr (qbz s b c (dredOf s c.dredger) cells a low f t)]] (fun _ _=>rfl) rfl (fun x=>decide (qg5 (dredOf s c.dredger) x.soil<0)) fun x _=>qvb s b c _ cells a low f t hD x
 unfold qen
 rw[hlv]at h3 hcl ⊢
 generalize qaI s.ground (qar b i) b.levels[i] c.level=co at*
 refine zT mix Tryz.func243 Tryz.ntmps243 Tryz.results243 rfl rfl rfl ?_;simp only[qab,Nat.reduceAdd]
 repeat'(first|((with_reducible apply qao);rfl;rfl)|refine zS ?_|refine zA ?_|refine zF h1 ?_|refine zF h2 ?_|refine zF h3 ?_|(refine zI ?_;intro hlt)|refine zE ?_|fail)
 all_goals first|rfl|trace_state
end Go.Pv.Soil

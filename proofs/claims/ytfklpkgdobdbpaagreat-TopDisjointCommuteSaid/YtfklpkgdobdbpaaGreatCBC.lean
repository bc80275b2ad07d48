import Derived.Test.YtfklpkgdobdbpaaGreatCBB
/- Part of the proofs over YtfklpkgdobdbpaaGreat: S29, S71, N25. -/
set_option linter.unusedVariables false
set_option linter.unusedSimpArgs false
set_option linter.unnecessarySimpa false
open Go Go.Proofs Go.Pv
set_option maxHeartbeats 8000000
set_option maxRecDepth 100000
set_option linter.unusedSimpArgs false
set_option linter.unusedVariables false
namespace Go.Pv.Soil
theorem qIc(g:Ground)(hg:OkG g)(hs:g.soils.length<1000000000000)(n:Nat)(hn:n<g.borings.length):Contract Tryz.prog 260 [.agg (qam g),.int .i64 n] (.ret (.int .i64 (qtD g n))):=by
 have hb:=hg.bor _ hn
 have hll:=hb.len
 have hq:=hg.n
 have e:qtD g n=qp3 g g.borings[n] g.borings[n].layers.length:=by simp only[qtD,List.getElem?_eq_getElem hn]
 rw[e]
 refine zT mix Tryz.func260 Tryz.ntmps260 Tryz.results260 rfl rfl rfl ?_;simp only[qac,Nat.reduceAdd]
 repeat'(first|refine zQ ?_|(refine zI ?_;intro hlt)|fail)
 refine qaf (g.borings[n].layers.length) (fun i=>⟨[(16,.int .i64 i),(15,.int .i64 g.borings[n].layers.length),(14,.sl (g.borings[n].layers.map qeB)),(5,.int .i64 (qp3 g g.borings[n] i)),(2,.op 0 0 0)],[(0,⟨2,true,[qam g]⟩)],64,36⟩) (fun i=>True) (qaa (k:=0) (ns:=[]) (ks:=[16,15,14,5,2]) [(0,0)] rfl (by simp) rfl) trivial ?_
 intro i hi hC
 by_cases hlt:i<g.borings[n].layers.length
 ·obtain⟨h1,h2,h3⟩:=qkQ hb hlt
  repeat'(first|((with_reducible apply qaj);rfl;(exact qFG g.soils hs _);rfl)|((with_reducible apply(qdZ 14));decide +kernel;rfl)|refine zS ?_|refine zA ?_|(refine zI ?_;intro hlt)|(refine zC ?_ ?_<;>first|intro h|simp)|refine zE ?_|fail)
  all_goals try exact absurd hlt (by omega)
  refine⟨by omega,trivial,?_⟩
  have e':qp3 g g.borings[n] (i+1)=max (qp3 g g.borings[n] i) (g.soils[(qa9 g.soils g.borings[n].layers[i].soil).toNat]).a:=by
   rw[←h3];rfl
  rw[e']
  exact qaa (k:=0) (ns:=[]) (ks:=[16,15,14,5,2]) [(0,0)] rfl (by simp) rfl
 ·have e:i=g.borings[n].layers.length:=by omega
  subst e
  repeat'(first|((with_reducible apply(qdZ 14));decide +kernel;rfl)|(with_reducible rfl)|refine zS ?_|refine zA ?_|(refine zI ?_;intro hlt)|(refine zC ?_ ?_<;>first|intro h|simp)|refine zE ?_|fail)
  all_goals first|exact absurd ‹_› (by omega)|trace_state
theorem qzy{m:Grid}(h:OkGrid m){i:Nat}(hi:i<m.levels.length):Geo.ptOK (qjH m i)=true:=by
 have hc:=qc7 h hi
 have hb:=h.bds
 have he:=h.ends
 have e1:=Int.mul_le_mul_of_nonneg_right (show(i:Int)%m.cols+1≤m.cols by omega) (show 0≤m.side by omega)
 have e2:=Int.mul_le_mul_of_nonneg_right (show(i:Int)/m.cols+1≤m.rows by omega) (show 0≤m.side by omega)
 rw[Int.add_mul,Int.one_mul]at e1 e2
 refine decide_eq_true ?_
 simp only[qjH,qap]
 omega
theorem qJW(q:Quay)(hq:qeI q=0)(m:Grid)(hm:OkGrid m)(h0:qa8 m=0)(hl:m.levels.length≤1000000000):Contract Tryz.prog 208 [.agg (qcf q),.agg (encGrid m)] (.ret (.tup [.agg (qlt m++[.fr 1 ((qlu q m m.levels.length m.levels.length).map qak)]),.int .i64 0])):=by
 have h1:=qH6 q
 rw[hq]at h1
 have h2:=qJV m hl h0
 rw[qFR q m]at h2
 have hF:qeS qak 1:=fun _=>⟨rfl,rfl⟩
 refine zT mix Tryz.func208 Tryz.ntmps208 Tryz.results208 rfl rfl rfl ?_;simp only[qac,Nat.reduceAdd]
 repeat'(first|refine zQ ?_|refine zF h1 ?_|fail)
 all_goals try(exfalso;omega)
 refine qsY (f:=qak) (l:=qlu q m m.levels.length 0) (cs:=qlt m) (q:=5) (args':=[.agg (encGrid m)]) rfl h2 hF rfl rfl rfl rfl rfl rfl ?_
 repeat'(first|refine zQ ?_|fail)
 simp only[qnf]
 refine qaf m.levels.length (fun i=>⟨[(30,.int .i64 i),(29,.int .i64 m.levels.length),(28,.os 4 0 m.levels.length),(2,.op 0 0 0),(3,.op 1 0 0),(4,.op 2 0 0),(7,.op 3 0 0)],[(0,⟨7,true,[qcf q]⟩),(1,⟨6,true,[encGrid m]⟩),(2,⟨6,false,[[.int .i64 0,.int .i64 0,.int .i64 0,.int .i64 0,.int .i64 0,.nilsl]]⟩),(3,⟨6,false,[qlt m++[.os 4 0 m.levels.length]]⟩),(4,⟨1,true,(qlu q m m.levels.length i).map qak⟩)],32,49⟩) (fun i=>True)
  (qaa (nx:=32) (k:=0) (ns:=[]) (ks:=[30,29,28,2,3,4,7]) [(0,0),(32,1),(64,2),(448,3),(325,4)] rfl (by simp) (by kernel_rfl)) trivial ?_
 intro i hi _
 by_cases hlt:i<m.levels.length
 ·have hle:=qnf (q:=q) (m:=m) (n:=m.levels.length) (i:=i)
  have y1:Contract Tryz.prog 250 [.agg (encGrid m),.int .i64 i] (.ret (.agg (gP (qjH m i)))):=qEQ m hm i hlt h0
  have y2:=qJS q hq (qjH m i) (qzy hm hlt)
  repeat'(first|refine zQ ?_|refine zF y1 ?_|refine zF y2 ?_|(refine zI ?_;intro hlt)|(refine zC ?_ ?_<;>first|intro h|simp)|fail)
  ·refine qaA (f:=qak) (l:=qlu q m m.levels.length i) (a:=(qf6 q (qjH m i)).1) rfl rfl rfl (by omega) rfl rfl rfl rfl (Nat.le_refl _) rfl ?_
   rw[qA7 (n:=m.levels.length) (by assumption)]
   repeat'(first|refine zQ ?_|fail)
   exact⟨by omega,trivial,qaa (nx:=32) (k:=0) (ns:=[]) (ks:=[30,29,28,2,3,4,7]) [(0,0),(1,1),(2,2),(3,3),(4,4)] rfl (by simp) (by kernel_rfl)⟩
  ·refine⟨by omega,trivial,?_⟩
   rw[qC5 (n:=m.levels.length) (by assumption)]
   exact qaa (nx:=32) (k:=0) (ns:=[]) (ks:=[30,29,28,2,3,4,7]) [(0,0),(1,1),(2,2),(3,3),(4,4)] rfl (by simp) (by kernel_rfl)
  ·exfalso;omega
 ·have e:i=m.levels.length:=by omega
  subst e
  repeat'(first|refine zQ ?_|(refine zC ?_ ?_<;>first|intro h|simp)|fail)
  all_goals first
   |(exfalso;omega)
   |exact qbh (qqX (cs:=qlt m) (len:=m.levels.length) rfl rfl (by simp[qnf]) rfl rfl rfl)
   |trace_state
def loG(m:Grid)(i:Nat):Geo.Pt:=⟨m.x+(i:Int)%m.cols*m.side,m.y+(i:Int)/m.cols*m.side⟩
def hiG(m:Grid)(i:Nat):Geo.Pt:=⟨m.x+(i:Int)%m.cols*m.side+m.side,m.y+(i:Int)/m.cols*m.side+m.side⟩
theorem qzz{m:Grid}(h:OkGrid m){i:Nat}(hi:i<m.levels.length):Geo.ptOK (loG m i)=true∧Geo.ptOK (hiG m i)=true:=by
 have hc:=qc7 h hi
 have hb:=h.bds
 have hsm:=h.small
 have he:=h.ends
 have e1:=Int.mul_le_mul_of_nonneg_right (show(i:Int)%m.cols+1≤m.cols by omega) (show 0≤m.side by omega)
 have e2:=Int.mul_le_mul_of_nonneg_right (show(i:Int)/m.cols+1≤m.rows by omega) (show 0≤m.side by omega)
 rw[Int.add_mul,Int.one_mul]at e1 e2
 refine⟨decide_eq_true ?_,decide_eq_true ?_⟩<;>simp only[loG,hiG]<;>omega
theorem qqd(m:Grid)(h:OkGrid m)(i:Nat)(hi:i<m.levels.length):Contract Tryz.prog 204 [.agg (encGrid m),.int .i64 i] (.ret (.tup [.agg (Geo.encPt (loG m i)),.agg (Geo.encPt (hiG m i))])):=by
 have hc:=qc7 h hi
 have hb:=h.bds
 have hsm:=h.small
 have he:=h.ends
 refine zT mix Tryz.func204 Tryz.ntmps204 Tryz.results204 rfl rfl rfl ?_;simp only[qac,Nat.reduceAdd]
 repeat'(first|((with_reducible apply(qba 12 [[3,4,5,6,7,8,9,10,11],[]]));decide +kernel;rfl)|(with_reducible apply qa1)|(with_reducible apply qax)|(with_reducible apply qav)|(with_reducible apply qb1)|(with_reducible apply qaF)|(with_reducible apply qc4)|(with_reducible apply qay)|((with_reducible apply qbn);rfl;(intro id'))|((with_reducible apply qa2);rfl)|refine zS ?_|refine zA ?_|refine zE ?_|fail)
 all_goals first|rfl|trace_state
def qfy(m:Grid)(i:Nat)(z:qfD):Bool:=Geo.touchE z.corners (loG m i) (hiG m i)
theorem qv5(m:Grid)(h:OkGrid m)(i:Nat)(hi:i<m.levels.length)(z:qfD)(hz:Geo.polyE z.corners=0):Contract Tryz.prog 145 [.agg (encGrid m),.int .i64 i,.agg (qbv z)] (.ret (.bool (qfy m i z))):=by
 have h1:=qqd m h i hi
 have h2:=Geo.c_Touches z.corners (loG m i) (hiG m i)
 have e:Geo.touchX z.corners (loG m i) (hiG m i)=(qfy m i z,0):=by
  have hb:=h.bds
  obtain⟨o1,o2⟩:=qzz h hi
  rw[Geo.touchX,if_neg (by omega),if_neg (by rw[o1,o2];simp),if_neg (by simp only[loG,hiG];omega)]
  rfl
 rw[e]at h2
 refine zT mix Tryz.func145 Tryz.ntmps145 Tryz.results145 rfl rfl rfl ?_;simp only[qac,Nat.reduceAdd]
 repeat'(first|(with_reducible rfl)|refine zQ ?_|refine zF h1 ?_|refine zF h2 ?_|refine zE ?_|fail)
 all_goals trace_state
theorem qBa(m:Grid)(h:OkGrid m)(i:Nat)(hi:i<m.levels.length)(z:qfD)(hz:Geo.polyE z.corners=0):Contract Tryz.prog 61 [.agg (encGrid m),.int .i64 i,.agg (qbv z)] (.ret (.bool (qfy m i z))):=by
 have hc:=qc7 h hi
 have hb:=h.bds
 have hsm:=h.small
 have he:=h.ends
 obtain⟨o1,o2⟩:=qzz h hi
 have h2:Contract Tryz.prog 138 [.sl (z.corners.map Geo.encPt),.agg [.int .i64 (m.x+(i:Int)%m.cols*m.side),.int .i64 (m.y+(i:Int)/m.cols*m.side)],.agg [.int .i64 (m.x+(i:Int)%m.cols*m.side+m.side),.int .i64 (m.y+(i:Int)/m.cols*m.side+m.side)]] (.ret (.bool (qfy m i z))):=Geo.c_rTouches z.corners (loG m i) (hiG m i) hz o1 o2
 refine zT mix Tryz.func61 Tryz.ntmps61 Tryz.results61 rfl rfl rfl ?_;simp only[qac,Nat.reduceAdd]
 repeat'(first|(with_reducible rfl)|refine zQ ?_|refine zF h2 ?_|refine zE ?_|fail)
 all_goals trace_state
theorem OkSite.zone{s:Site}(h:OkSite s):s.zones.length≤10∧∀i (hi:i<s.zones.length),Geo.polyE s.zones[i].corners=0:=by
 have h1:=h.zo
 unfold qdT at h1
 split at h1
 ·omega
 ·exact⟨by omega,fun i hi=>(qhN h1 hi).2⟩
def qf7(s:Site)(i:Nat):Bool:=s.zones.any (qfy s.bed i)
theorem qoU(s:Site)(h:OkSite s)(i:Nat)(hi:i<s.bed.levels.length)(z:qfD)(hz:Geo.polyE z.corners=0):Contract Tryz.prog 207 [.agg (qbv z),.ptr (encSite s),.ptr [.int .i64 i]] (.ret (.bool (qfy s.bed i z))):=by
 have h1:Contract Tryz.prog 145 [.agg (encGrid s.bed),.int .i64 i,.agg (qbv z)] (.ret (.bool (qfy s.bed i z))):=qv5 s.bed h.bed i hi z hz
 refine zT mix Tryz.func207 Tryz.ntmps207 Tryz.results207 rfl rfl rfl ?_;simp only[qac,Nat.reduceAdd]
 repeat'(first|(with_reducible rfl)|refine zQ ?_|refine zF h1 ?_|refine zE ?_|fail)
 all_goals trace_state
theorem qkY(s:Site)(h:OkSite s)(i:Nat)(hi:i<s.bed.levels.length):Contract Tryz.prog 146 [.agg (encSite s),.int .i64 i] (.ret (.bool (qf7 s i))):=by
 have hz:=h.zone
 have h1:=qx3 s.zones (by omega) 207 [.ptr (encSite s),.ptr [.int .i64 i]] (fun _ _=>rfl) rfl (qfy s.bed i) fun z hz'=>by
  obtain⟨j,hj,rfl⟩:=List.mem_iff_getElem.1 hz'
  exact qoU s h i hi _ (hz.2 j hj)
 refine zT mix Tryz.func146 Tryz.ntmps146 Tryz.results146 rfl rfl rfl ?_;simp only[qac,Nat.reduceAdd]
 repeat'(first|refine zQ ?_|refine zF h1 ?_|refine zE ?_|fail)
 all_goals first|rfl|trace_state
noncomputable def qzA(st:Int×Bool)(v:Int):Int×Bool:=if v≠30000∧(st.2=false∨st.1<v)then(v,true)else st
theorem qBb{st:Int×Bool}{v:Int}(h:¬v=30000)(h2:st.1<v):qzA st v=(v,true):=if_pos ⟨h,.inr h2⟩
theorem qBc{st:Int×Bool}{v:Int}(h:¬v=30000)(h2:st.2=false):qzA st v=(v,true):=if_pos ⟨h,.inl h2⟩
theorem qBd{st:Int×Bool}{v:Int}(h:v=30000):qzA st v=st:=if_neg fun hh=>hh.1 h
theorem qBe{st:Int×Bool}{v:Int}(h:st.2=true)(h2:¬st.1<v):qzA st v=st:=if_neg fun hh=>hh.2.elim (by rw[h];simp) h2
noncomputable def qtn(s:Site)(i j:Nat):Int×Bool:=(s.quays.take j).foldl (fun st q=>qzA st (qil q s.bed i)) (0,false)
noncomputable def qv6(s:Site)(i:Nat):Int×Bool:=qtn s i s.quays.length
theorem qoV{s:Site}{i j:Nat}(hj:j<s.quays.length):qtn s i (j+1)=qzA (qtn s i j) (qil s.quays[j] s.bed i):=by
 unfold qtn
 rw[List.take_succ_eq_append_getElem hj,List.foldl_append];rfl
theorem OkSite.quay{s:Site}(h:OkSite s):s.quays.length≤5∧∀i (hi:i<s.quays.length),qeI s.quays[i]=0:=by
 have h1:=h.qu
 unfold qdU at h1
 split at h1
 ·omega
 ·refine⟨by omega,fun i hi=>?_⟩
  have:=qdq h1 i hi
  simp only[qkH,List.getElem?_eq_getElem hi]at this
  split at this
  ·contradiction
  ·rename_i h2;exact Classical.not_not.1 h2
theorem qv7(s:Site)(h:OkSite s)(i:Nat)(hi:i<s.bed.levels.length):Contract Tryz.prog 147 [.agg (encSite s),.int .i64 i] (.ret (.tup [.int .i64 (qv6 s i).1,.bool (qv6 s i).2])):=by
 have hq:=h.quay
 have hsm:=h.bed.small
 refine zT mix Tryz.func147 Tryz.ntmps147 Tryz.results147 rfl rfl rfl ?_;simp only[qac,Nat.reduceAdd]
 repeat'(first|refine zQ ?_|fail)
 refine qaf s.quays.length (fun j=>⟨[(6,.int .i64 (qtn s i j).1),(7,.bool (qtn s i j).2),(16,.int .i64 j),(15,.int .i64 s.quays.length),(14,.sl (s.quays.map qcf)),(1,.int .i64 i),(2,.op 0 0 0)],[(0,⟨12,true,[encSite s]⟩)],32,47⟩) (fun j=>True) (qaa (nx:=32) (k:=0) (ns:=[]) (ks:=[6,7,16,15,14,1,2]) [(0,0)] rfl (by simp) (by kernel_rfl)) trivial ?_
 intro j hj _
 by_cases hL:j<s.quays.length
 ·have h1:Contract Tryz.prog 208 [.agg (qcf s.quays[j]),.agg (encGrid s.bed)] (.ret (.tup [.agg (qtj s.bed++[.sl ((qlu s.quays[j] s.bed s.bed.levels.length s.bed.levels.length).map qak)]),.int .i64 0])):=qCJ qvS (qJW _ (hq.2 j hL) s.bed h.bed h.be (by omega))
  have hwl:=qnf (q:=s.quays[j]) (m:=s.bed) (n:=s.bed.levels.length) (i:=s.bed.levels.length)
  have hst:=qoV (i:=i) hL
  have hat:∀(hh:i<(qlu s.quays[j] s.bed s.bed.levels.length s.bed.levels.length).length),(qlu s.quays[j] s.bed s.bed.levels.length s.bed.levels.length)[i]'hh=qil s.quays[j] s.bed i:=fun hh=>by simp[qlu,hi]
  generalize qlu s.quays[j] s.bed s.bed.levels.length s.bed.levels.length=wl at*
  have hii:i<wl.length:=by omega
  have hat:=hat hii
  rw[←hat]at hst
  repeat'(first|refine zQ ?_|refine zF h1 ?_|(refine zI ?_;intro hlt)|(refine zC ?_ ?_<;>first|intro h|simp)|(refine zG ?_ ?_<;>first|intro h|simp)|refine zE ?_|fail)
  all_goals first
   |exact absurd hL (by omega)
   |(refine⟨hL,trivial,?_⟩
     rw[hst]
     first
      |rw[qBb (by assumption) (by assumption)]
      |rw[qBc (by assumption) (by assumption)]
      |rw[qBd (by assumption)]
      |rw[qBe (by assumption) (by assumption)]
     exact qaa (nx:=32) (k:=0) (ns:=[]) (ks:=[6,7,16,15,14,1,2]) [(0,0)] rfl (by simp) (by kernel_rfl))
   |trace_state
 ·repeat'(first|refine zQ ?_|(refine zI ?_;intro hlt)|(refine zC ?_ ?_<;>first|intro h|simp)|refine zE ?_|fail)
  all_goals first
   |exact absurd hL (by omega)
   |(obtain rfl:j=s.quays.length:=by omega
     rfl)
   |trace_state
end Go.Pv.Soil

import Derived.Test.YtfklpkgdobdbpaaGreatCAY
import Derived.Test.YtfklpkgdobdbpaaGreatCBA
/- Part of the proofs over YtfklpkgdobdbpaaGreat: N13, N15, S69, PHZ. -/
set_option linter.unusedVariables false
set_option linter.unusedSimpArgs false
set_option linter.unnecessarySimpa false
open Go Go.Proofs Go.Pv
set_option maxHeartbeats 8000000
set_option maxRecDepth 100000
set_option linter.unusedSimpArgs false
set_option linter.unusedVariables false
namespace Go.Pv.Soil
theorem qqa{b:Grid}(h:qa8 b=0){l:List Int}(hl:l.length=b.levels.length)(hv:l.any qhe=false):qa8 ⟨b.x,b.y,b.side,b.cols,b.rows,l⟩=0:=by
 unfold qa8 at h ⊢
 simp only[hl,hv]
 split at h
 ·omega
 ·rename_i h1
  rw[if_neg h1]
  split at h
  ·omega
  ·rename_i h2
   rw[if_neg h2]
   split at h
   ·omega
   ·rename_i h3
    rw[if_neg h3]
    split at h
    ·omega
    ·rename_i h4
     rw[if_neg h4]
     simp
theorem qeM{s:Site}(hs:OkGrid s.bed){b:Grid}(hb:OkBed s b){c:Cut}(hc:OkCut s c):OkBed s (qeL s b c):=by
 have hv:(qgt b.levels (qaH s c) c.level).any qhe=false:=by
  refine List.any_eq_false.2 fun x hx=>?_
  obtain⟨i,hi,rfl⟩:=List.mem_iff_getElem.1 hx
  rw[qaZ]at hi
  rw[←qbu (by rw[qaZ];exact hi),qdL hi]
  have h1:=hb.ok.lvl i hi
  rw[←qbu hi]at h1
  have h2:=hc.lvl
  rw[Bool.not_eq_true]
  split
  ·rename_i hk
   have h3:=h1.resolve_left hk.2
   have h3:=of_decide_eq_true h3
   unfold qhe
   rw[show qhp (min (lv b.levels i) c.level)=true from decide_eq_true (by omega)]
   simp
  ·unfold qhe
   rcases h1 with h1|h1
   ·rw[h1];rfl
   ·rw[h1];simp
 have h0:qa8 (qeL s b c)=0:=qqa hb.er (qaZ _ _ _) hv
 exact⟨qfx h0,h0,hb.al⟩
theorem qA0{l:List Int}{foot:List Nat}{v:Int}{j:Nat}(hf:foot.Nodup)(hj:j<foot.length)(hi:foot[j]<l.length)(hk:lv l foot[j]≠30000):qgt l (foot.take (j+1)) v=(qgt l (foot.take j) v).set foot[j] (min (lv l foot[j]) v):=by
 refine ql9 (by simp[qaZ]) fun i hi2=>?_
 rw[qaZ]at hi2
 rw[qdL hi2,qkP (by rw[qaZ];exact hi),qdL hi2,List.take_succ_eq_append_getElem hj]
 by_cases e:foot[j]=i
 ·subst e
  rw[if_pos ⟨List.mem_append_right _ List.mem_cons_self,hk⟩,if_pos rfl]
 ·rw[if_neg e]
  have:i∈foot.take j++[foot[j]]↔i∈foot.take j:=by rw[List.mem_append,List.mem_singleton];exact⟨fun h=>h.resolve_right fun h=>e h.symm,.inl⟩
  simp only[this]
theorem qf5(s:Site)(hs:OkGrid s.bed)(b:Grid)(hb:OkBed s b)(c:Cut)(hc:OkCut s c):Contract Tryz.prog 50 [.agg (encSite s),.agg (encGrid b),.agg (encCut c)] (.ret (.agg (encGrid (qeL s b c)))):=by
 obtain⟨ha,hlt,hpos,hle⟩:=qby hs hc
 have hlen:=hb.len hs
 have hbd:=hb.ok.bds
 have hsm:=hb.ok.small
 have hnd:=qoK ha
 have h1:=c91 b (by omega)
 have h2:=qhj s hs c hc
 have hlt':∀j (hj:j<(qaH s c).length),(qaH s c)[j]<b.levels.length:=fun j hj=>by rw[hlen];exact hlt _ (List.getElem_mem hj)
 have hF:qeS qak 1:=fun _=>⟨rfl,rfl⟩
 show Contract _ _ _ (.ret (.agg (encGrid ⟨b.x,b.y,b.side,b.cols,b.rows,qgt b.levels (qaH s c) c.level⟩)))
 generalize qaH s c=ft at*
 refine zT mix Tryz.func50 Tryz.ntmps50 Tryz.results50 rfl rfl rfl ?_;simp only[qac,Nat.reduceAdd]
 repeat'(first|((with_reducible apply(qhI (cs:=qtj b)));rfl;(exact h1);(exact hF);rfl;rfl;rfl;rfl;rfl)|refine zQ ?_|refine zF h2 ?_|fail)
 refine qaf ft.length (fun j=>⟨[(9,.int .i64 j),(8,.sl (ft.map qcX)),(7,.op 1 0 0),(6,.op 5 0 0),(5,.op 2 0 0),(4,.op 4 0 0)],
  [(4,⟨6,true,[encGrid b]⟩),(1,⟨6,false,[qtj b++[.os 3 0 b.levels.length]]⟩),(2,⟨8,true,[encCut c]⟩),(3,⟨1,true,(qgt b.levels (ft.take j) c.level).map qak⟩),(5,⟨6,false,[[.int .i64 0,.int .i64 0,.int .i64 0,.int .i64 0,.int .i64 0,.nilsl]]⟩)],192,46⟩) (fun j=>True) ?_ trivial ?_
 ·rw[show qgt b.levels (ft.take 0) c.level=b.levels from qvJ]
  exact qaa (nx:=192) (k:=1) (ns:=[]) (ks:=[9,8,7,6,5,4]) [(32,4),(192,1),(64,2),(165,3),(96,5)] rfl (by simp) (by kernel_rfl)
 intro j hj _
 have hll:=qaZ b.levels (ft.take j) c.level
 by_cases hL:j<ft.length
 ·have hjb:=hlt' j hL
  have hat:=qzs (v:=c.level) hnd hL hjb
  have hgl:(qgt b.levels (ft.take j) c.level)[ft[j]]'(by omega)=lv b.levels ft[j]:=by rw[←qbu (by omega),hat]
  have h3:=qCZ b (ft[j]:Nat) (by omega) (by omega)
  try simp only[Int.toNat_natCast]at h3
  by_cases hk:lv b.levels ft[j]=30000
  ·rw[decide_eq_true hk]at h3
   repeat'(first|refine zQ ?_|refine zF h3 ?_|(refine zI ?_;intro hlt)|(refine zC ?_ ?_<;>first|intro h|simp)|fail)
   all_goals first
    |exact absurd hL (by omega)
    |(refine⟨hL,trivial,?_⟩
      rw[qvK hL (.inl hk)]
      exact qaa (nx:=192) (k:=1) (ns:=[]) (ks:=[9,8,7,6,5,4]) [(4,4),(1,1),(2,2),(3,3),(5,5)] rfl (by simp) (by kernel_rfl))
    |trace_state
  ·rw[decide_eq_false hk]at h3
   repeat'(first|refine zQ ?_|refine zF h3 ?_|(refine zI ?_;intro hlt)|(refine zC ?_ ?_<;>first|intro h|simp)|fail)
   all_goals try exact absurd hL (by omega)
   refine qaA (f:=qak) (l:=qgt b.levels (ft.take j) c.level) (i:=ft[j]) (a:=min ((qgt b.levels (ft.take j) c.level)[ft[j]]'(by omega)) c.level) rfl rfl rfl (by omega) rfl rfl rfl rfl (zL rfl) rfl ?_
   repeat'(first|refine zQ ?_|fail)
   refine⟨hL,trivial,?_⟩
   rw[qA0 hnd hL hjb hk,hgl]
   exact qaa (nx:=192) (k:=1) (ns:=[]) (ks:=[9,8,7,6,5,4]) [(4,4),(1,1),(2,2),(3,3),(5,5)] rfl (by simp) (by kernel_rfl)
 ·obtain rfl:j=ft.length:=by omega
  repeat'(first|refine zQ ?_|(refine zI ?_;intro hlt)|(refine zC ?_ ?_<;>first|intro h|simp)|fail)
  all_goals try exact absurd (show ft.length<ft.length by omega) hL
  rw[List.take_length]at*
  exact qkw rfl (qzd (f:=qak) (k:=1) (m:=56) rfl (by rw[hll])) rfl
theorem qoP:qiH qa5 2:=fun _=>⟨rfl,rfl,rfl⟩
def qbb(s:Site)(b:Grid)(c:Cut):List Share:=qaT s.ground b (qeL s b c) b.levels.length
theorem qvX{s:Site}{b:Grid}{c:Cut}:qbX b (qeL s b c)=true:=decide_eq_true ⟨rfl,rfl,rfl,rfl,rfl⟩
theorem qqb{s:Site}(hg:qaI s.ground=0)(hs:OkGrid s.bed){b:Grid}(hb:OkBed s b){c:Cut}(hc:OkCut s c):qa3 s.ground [b,qeL s b c]=0:=by
 unfold qa3
 rw[if_neg (not_not_intro hg),if_neg]
 ·show(if qbX b (qeL s b c)=true then(0:Int)else 10)=0
  rw[if_pos qvX]
 ·simp only[List.map_cons,List.map_nil,qcR,hb.er,(qeM hs hb hc).er]
  simp
theorem qvY(s:Site)(hg:qaI s.ground=0)(hz:Sized s)(hs:OkGrid s.bed)(b:Grid)(hb:OkBed s b)(c:Cut)(hc:OkCut s c):Contract Tryz.prog 120 [.agg (encSite s),.agg (encGrid b),.agg (encCut c)] (.ret (.sl ((qbb s b c).map qa5))):=by
 have h1:=qf4 s hs b hb c hc
 have hsm:=hb.ok.small
 have hsm2:=(qeM hs hb hc).ok.small
 have h2:=qq2 qoP (qC0 s.ground hz.so hz.bo b (qeL s b c) (by omega) (by omega) (qqb hg hs hb hc))
 refine zT mix Tryz.func120 Tryz.ntmps120 Tryz.results120 rfl rfl rfl ?_;simp only[qac,Nat.reduceAdd]
 repeat'(first|refine zQ ?_|refine zF h1 ?_|refine zF h2 ?_|fail)
 exact qkw rfl rfl rfl
theorem qvZ(s:Site)(hg:qaI s.ground=0)(hz:Sized s)(hs:OkGrid s.bed)(b:Grid)(hb:OkBed s b)(c:Cut)(hc:OkCut s c):Contract Tryz.prog 52 [.agg (encSite s),.agg (encGrid b),.agg (encCut c)] (.ret (.sl ((qbb s b c).map qa5))):=by
 have h1:=qf5 s hs b hb c hc
 have hlb:=qeM hs hb hc
 have hlen:(qeL s b c).levels.length=b.levels.length:=qaZ _ _ _
 have h2:=qu3 qoP (c55 s.ground (okG hg) hz.so b hb.ok (qeL s b c) hlb.ok hlen)
 refine zT mix Tryz.func52 Tryz.ntmps52 Tryz.results52 rfl rfl rfl ?_;simp only[qac,Nat.reduceAdd]
 repeat'(first|refine zQ ?_|refine zF h1 ?_|refine zF h2 ?_|fail)
 exact qkw rfl rfl rfl
structure OkDred(d:Dred):Prop where
 n:qjq d
 l:d.outs.length≤8
 o:∀i (h:i<d.outs.length),(1≤d.outs[i].rate∧d.outs[i].rate≤100000)∧(0≤d.outs[i].wear∧d.outs[i].wear≤1000)
theorem qC1{d:Dred}(h:qet d=0):OkDred d:=by
 unfold qet at h
 split at h
 ·omega
 ·split at h
  ·omega
  ·rename_i h2
   split at h
   ·omega
   ·refine⟨Classical.not_not.1 h2,by omega,fun i hi=>?_⟩
    have h3:=qdq h i hi
    simp only[qce,List.getElem?_eq_getElem hi]at h3
    split at h3
    ·omega
    ·split at h3
     ·omega
     ·unfold qvr at h3
      split at h3
      ·assumption
      ·omega
structure OkSite(s:Site):Prop where
 be:qa8 s.bed=0
 gr:qaI s.ground=0
 zo:qdT s.zones=0
 qu:qdU s.quays=0
 ga:qb3 s.gauges=0
 dr:qen s.ground.soils s.dreds=0
theorem qzv{s:Site}(h:qfn s=0):OkSite s:=by
 rw[qhX]at h
 split at h
 ·contradiction
 ·split at h
  ·contradiction
  ·split at h
   ·contradiction
   ·split at h
    ·contradiction
    ·split at h
     ·contradiction
     ·exact⟨by omega,by omega,by omega,by omega,by omega,h⟩
theorem OkSite.e{s:Site}(h:OkSite s):qfn s=0:=by
 rw[qhX];simp[h.be,h.gr,h.zo,h.qu,h.ga,h.dr]
theorem OkSite.bed{s:Site}(h:OkSite s):OkGrid s.bed:=qfx h.be
theorem OkSite.dred{s:Site}(h:OkSite s):∀i (hi:i<s.dreds.length),OkDred s.dreds[i]:=fun i hi=>by
 have h1:=h.dr
 unfold qen at h1
 split at h1
 ·omega
 ·have:=qdq h1 i hi
  rw[qhW hi]at this
  split at this
  ·contradiction
  ·rename_i h2;exact qC1 (Classical.not_not.1 h2)
theorem OkSite.dreds{s:Site}(h:OkSite s):s.dreds.length≤6:=by
 have h1:=h.dr
 unfold qen at h1
 split at h1<;>omega
theorem OkSite.dredOf{s:Site}(h:OkSite s){c:Cut}(hc:OkCut s c):OkDred (dredOf s c.dredger):=by
 obtain⟨hk,e⟩:=qcc hc.dr
 rw[e];exact h.dred _ hk
def upI(a b:Int):Int:=(a+b-1)/b
theorem qkV{a b:Int}(hb:0<b)(ha:0≤a):0≤upI a b∧upI a b≤a:=by
 unfold upI
 refine⟨Int.ediv_nonneg (by omega) (by omega),?_⟩
 rcases Int.lt_or_eq_of_le ha with h|rfl
 ·have h1:(a+b-1)/b<a+1:=Int.ediv_lt_of_lt_mul hb (by
   have:=Int.mul_le_mul_of_nonneg_left (show(1:Int)≤b by omega) (show(0:Int)≤a by omega)
   have e:(a+1)*b=a*b+b:=by rw[Int.add_mul,Int.one_mul]
   omega)
  omega
 ·have:(0+b-1)/b=0:=Int.ediv_eq_zero_of_lt (by omega) (by omega)
  omega
theorem qA1(a b:Int)(hb:0<b): -(-a/b)=upI a b:=by
 unfold upI
 have h1:=Int.mul_ediv_add_emod (-a) b
 have h2:=Int.emod_nonneg (-a) (show b≠0 by omega)
 have h3:=Int.emod_lt_of_pos (-a) hb
 have e:a+b-1=b*(-(-a/b))+(b-1-(-a)%b):=by
  rw[Int.mul_neg];omega
 rw[e,Int.mul_add_ediv_left _ _ (by omega),Int.ediv_eq_zero_of_lt (a:=b-1-(-a)%b) (by omega) (by omega),Int.add_zero]
theorem upc(a b:Int)(hb:0<b)(ha:0≤a∧a+b≤9223372036854775807):Contract Tryz.prog 193 [.int .i64 a,.int .i64 b] (.ret (.int .i64 (upI a b))):=qJR a b hb ha
theorem qA2(n m:Int)(hm:0<m∧m≤1000000000000)(hn: -9000000000000000000≤n∧n≤9000000000000000000):Contract Tryz.prog 194 [.int .i64 n,.int .i64 m] (.ret (.int .i64 (n/m))):=by
 have hd:=c44 n m ⟨hm.1,by omega⟩
 have e1:=Int.emod_nonneg n (show m≠0 by omega)
 have e2:=Int.emod_lt_of_pos n hm.1
 have e3:n-n%m=m*(n/m):=by have:=Int.mul_ediv_add_emod n m;omega
 refine zT mix Tryz.func194 Tryz.ntmps194 Tryz.results194 rfl rfl rfl ?_;simp only[qac,Nat.reduceAdd]
 repeat'(first|refine zQ ?_|refine zF hd ?_|refine zE ?_|fail)
 all_goals first
  |(rw[e3,Int.mul_tdiv_cancel_left _ (by omega)];done)
  |trace_state
theorem qv1(a b:Int)(hb:0<b∧b≤1000000000000)(ha:0≤a∧a≤9000000000000000000):Contract Tryz.prog 125 [.int .i64 a,.int .i64 b] (.ret (.int .i64 (upI a b))):=by
 have hf:=qA2 (-a) b hb (by omega)
 have h1:=qA1 a b hb.1
 have h2:=qkV hb.1 ha.1
 have e0:(0:Int)-a= -a:=by omega
 rw[←e0]at hf h1
 refine zT mix Tryz.func125 Tryz.ntmps125 Tryz.results125 rfl rfl rfl ?_;simp only[qac,Nat.reduceAdd]
 repeat'(first|refine zQ ?_|refine zF hf ?_|refine zE ?_|fail)
 all_goals first|omega|trace_state
theorem qJV(g:Grid)(hl:g.levels.length≤1000000000)(h0:qa8 g=0):Contract Tryz.prog 257 [.agg (encGrid g)] (.ret (.tup [.agg (qlt g++[.fr 1 ((List.replicate g.levels.length (30000:Int)).map qak)]),.int .i64 0])):=by
 have h1:=qCT g (by omega)
 rw[h0]at h1
 have h2:=qJU g hl
 generalize hR:List.replicate g.levels.length (30000:Int)=R at*
 have hlen:R.length=g.levels.length:=by rw[←hR];simp
 refine zT mix Tryz.func257 Tryz.ntmps257 Tryz.results257 rfl rfl rfl ?_;simp only[qac,Nat.reduceAdd]
 repeat'(first|refine zQ ?_|refine zF h1 ?_|fail)
 all_goals try(exfalso;omega)
 refine qhI (f:=qak) (l:=R) (cs:=qlt g) (q:=5) (args':=[.agg (encGrid g),.clo (.func 288) [] []]) rfl h2 (fun _=>⟨rfl,rfl⟩) rfl rfl rfl rfl rfl ?_
 repeat'(first|refine zA ?_|fail)
 all_goals first
  |(exfalso;omega)
  |exact qbh (qqX (cs:=qlt g) (len:=R.length) rfl rfl (by simp) rfl rfl rfl)
  |trace_state
end Go.Pv.Soil
namespace Go.Pv.Geo
theorem c_rSpan(a b:Pt)(ha:ptOK a=true)(hb:ptOK b=true):Contract Tryz.prog 141 [.agg (encPt a),.agg (encPt b)] (.ret (.int .i64 (spanE (sqE a b)))):=by
 have hbd:=sqE_bd ha hb
 have hd:=qu8 a b ha hb
 generalize sqE a b=s at*
 refine zT mix Tryz.func141 Tryz.ntmps141 Tryz.results141 rfl rfl rfl ?_;simp only[qac,Nat.reduceAdd]
 repeat'(first|refine zQ ?_|fail)
 refine qhH (fun x:Int×Int=>(x.2-x.1).toNat) (fun x=>⟨[(5,.int .i64 x.1),(6,.int .i64 x.2),(2,.op 0 0 0),(3,.op 1 0 0)],[(0,⟨2,true,[encPt a]⟩),(1,⟨2,true,[encPt b]⟩)],32,26⟩) (fun x=>(0≤x.1∧x.1≤x.2∧x.2≤4000000)∧s≤x.2*x.2∧∀m,0≤m→m<x.1→m*m<s) (0,4000000)
  (qaa (nx:=32) (k:=0) (ns:=[]) (ks:=[5,6,2,3]) [(0,0),(32,1)] rfl (by simp) (by kernel_rfl)) ⟨⟨by omega,by omega,by omega⟩,by omega,fun m h1 h2=>by omega⟩ ?_
 rintro⟨lo,hi⟩ ⟨⟨h1,h2,h3⟩,h4,h5⟩
 simp only at h1 h2 h3 h4 h5
 have hmid:0≤(lo+hi)/2∧(lo+hi)/2≤4000000:=by omega
 have hmm:=qhc hmid.1 hmid.2
 have hmm0:=Int.mul_nonneg hmid.1 hmid.1
 repeat'(first|refine zQ ?_|refine zF hd ?_|(refine zC ?_ ?_<;>first|intro h|simp)|refine zE ?_|fail)
 all_goals first
  |exact⟨(lo,(lo+hi)/2),by simp only;omega,⟨⟨by simp only;omega,by simp only;omega,by simp only;omega⟩,by simp only;omega,h5⟩,qaa (nx:=32) (k:=0) (ns:=[]) (ks:=[5,6,2,3]) [(0,0),(1,1)] rfl (by simp) (by kernel_rfl)⟩
  |exact⟨((lo+hi)/2+1,hi),by simp only;omega,⟨⟨by simp only;omega,by simp only;omega,by simp only;omega⟩,h4,fun m hm1 hm2=>by have:=qhc hm1 (show m≤(lo+hi)/2 by simp only at hm2;omega);omega⟩,qaa (nx:=32) (k:=0) (ns:=[]) (ks:=[5,6,2,3]) [(0,0),(1,1)] rfl (by simp) (by kernel_rfl)⟩
  |(have he:lo=hi:=by omega
    subst he
    exact(qjB ⟨h1,h4,h5⟩).symm)
  |(exfalso;omega)
  |trace_state
theorem c_rOffset(a b p:Pt)(ha:ptOK a=true)(hb:ptOK b=true)(hp:ptOK p=true)(hne:eqP a b=false):Contract Tryz.prog 142 [.agg (encPt a),.agg (encPt b),.agg (encPt p)] (.ret (.int .i64 (offE a b p))):=by
 have hx:=qm2 a b p ha hb hp
 have hs:=c_rSpan a b ha hb
 have h1:=crossE_bd ha hb hp
 have hab:=qFH (crossE a b p) (by omega) (by omega)
 have h2:=qjC (qq8 hne) (sqE_bd ha hb).2
 have h3:=(span_is (sqE_bd ha hb).2).2
 have h4:=absE_nn (crossE a b p)
 have h5:=absE_le h1
 unfold offE
 refine zT mix Tryz.func142 Tryz.ntmps142 Tryz.results142 rfl rfl rfl ?_;simp only[qac,Nat.reduceAdd]
 repeat'(first|(with_reducible rfl)|refine zQ ?_|refine zF hx ?_|refine zF hs ?_|refine zF hab ?_|refine zE ?_|fail)
 all_goals trace_state
theorem qA8(n m:Int)(hm:0<m)(hm':m≤1000000000000)(hn: -1000000000000000≤n∧n≤1000000000000000):Contract Tryz.prog 194 [.int .i64 n,.int .i64 m] (.ret (.int .i64 (n/m))):=by
 have hd:=qFI n m hm hm' hn
 have e1:=Int.emod_nonneg n (show m≠0 by omega)
 have e2:=Int.emod_lt_of_pos n hm
 have e3:n-n%m=m*(n/m):=by have:=Int.mul_ediv_add_emod n m;omega
 refine zT mix Tryz.func194 Tryz.ntmps194 Tryz.results194 rfl rfl rfl ?_;simp only[qac,Nat.reduceAdd]
 repeat'(first|refine zQ ?_|refine zF hd ?_|refine zE ?_|fail)
 rw[e3,Int.mul_tdiv_cancel_left _ (by omega)]
theorem c_rAlong(a b p:Pt)(ha:ptOK a=true)(hb:ptOK b=true)(hp:ptOK p=true)(hne:eqP a b=false):Contract Tryz.prog 140 [.agg (encPt a),.agg (encPt b),.agg (encPt p)] (.ret (.int .i64 (alongE a b p))):=by
 have hx:=qze a b p ha hb hp
 have hs:=c_rSpan a b ha hb
 have h1:=qu7 ha hb hp
 have h2:=qjC (qq8 hne) (sqE_bd ha hb).2
 have h3:=(span_is (sqE_bd ha hb).2).2
 have hf:=qA8 (qps a b p) (spanE (sqE a b)) h2 (by omega) (by omega)
 refine zT mix Tryz.func140 Tryz.ntmps140 Tryz.results140 rfl rfl rfl ?_;simp only[qac,Nat.reduceAdd]
 repeat'(first|refine zQ ?_|refine zF hx ?_|refine zF hs ?_|refine zF hf ?_|refine zE ?_|fail)
 all_goals rfl
end Go.Pv.Geo

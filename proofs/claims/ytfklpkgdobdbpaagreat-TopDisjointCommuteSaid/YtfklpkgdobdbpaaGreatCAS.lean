import Derived.Test.YtfklpkgdobdbpaaGreatCAM
import Derived.Test.YtfklpkgdobdbpaaGreatCAQ
/- Part of the proofs over YtfklpkgdobdbpaaGreat: Q5, S28, Q2, S31, S34, S51, PH14, S68, S70, S72, S73, R14. -/
set_option linter.unusedVariables false
set_option linter.unusedSimpArgs false
set_option linter.unnecessarySimpa false
namespace Go.Pv.Soil
def qik(C col r w:Nat):List Nat:=(List.range w).map fun k=>r*C+col+k
def qcn(C col row w h:Nat):List Nat:=(List.range h).flatMap fun r=>qik C col (row+r) w
theorem qzr:∀{a b:List Nat},a.Pairwise (· < ·)→b.Pairwise (· < ·)→(∀x,x∈a↔x∈b)→a=b
 |[],[],_,_,_=>rfl
 |[],y::b,_,_,h=>by have:=(h y).2 (by simp);simp at this
 |x::a,[],_,_,h=>by have:=(h x).1 (by simp);simp at this
 |x::a,y::b,ha,hb,h=>by
  rw[List.pairwise_cons]at ha hb
  have e:x=y:=by
   rcases List.mem_cons.1 ((h x).1 (by simp))with e|h1
   ·exact e
   ·rcases List.mem_cons.1 ((h y).2 (by simp))with e|h2
    ·exact e.symm
    ·have:=hb.1 x h1;have:=ha.1 y h2;omega
  subst e
  rw[qzr ha.2 hb.2 fun z=>?_]
  have hz:=h z
  constructor
  ·intro hm
   have:=ha.1 z hm
   rcases List.mem_cons.1 (hz.1 (by simp[hm]))with e|h1
   ·omega
   ·exact h1
  ·intro hm
   have:=hb.1 z hm
   rcases List.mem_cons.1 (hz.2 (by simp[hm]))with e|h1
   ·omega
   ·exact h1
theorem qry{C col row w h i:Nat}:i∈qcn C col row w h↔∃r k,r<h∧k<w∧i=(row+r)*C+col+k:=by
 constructor
 ·intro hi
  obtain⟨r,hr,hi⟩:=List.mem_flatMap.1 hi
  obtain⟨k,hk,rfl⟩:=List.mem_map.1 hi
  exact⟨r,k,List.mem_range.1 hr,List.mem_range.1 hk,rfl⟩
 ·rintro⟨r,k,hr,hk,rfl⟩
  exact List.mem_flatMap.2 ⟨r,List.mem_range.2 hr,List.mem_map.2 ⟨k,List.mem_range.2 hk,rfl⟩⟩
theorem qAU{C col row w h R i:Nat}(hc:col+w≤C)(hr:row+h≤R)(hi:i∈qcn C col row w h):i<R*C:=by
 obtain⟨r,k,h1,h2,rfl⟩:=qry.1 hi
 have:(row+r+1)*C≤R*C:=Nat.mul_le_mul_right C (by omega)
 rw[Nat.add_mul,Nat.one_mul]at this
 omega
theorem qrz{C col row w:Nat}(hc:col+w≤C):∀(h:Nat),(qcn C col row w h).Pairwise (· < ·)
 |0=>by simp[qcn]
 |h+1=>by
  have ih:=qrz (row:=row) hc h
  unfold qcn at ih ⊢
  rw[List.range_succ,List.flatMap_append,List.flatMap_singleton]
  rw[List.pairwise_append]
  refine⟨ih,?_,fun x hx y hy=>?_⟩
  ·unfold qik
   rw[List.pairwise_map]
   exact List.pairwise_lt_range.imp fun h=>by omega
  ·obtain⟨r,k,h1,h2,rfl⟩:=qry.1 hx
   obtain⟨k',h3,rfl⟩:=List.mem_map.1 hy
   have:(row+r+1)*C≤(row+h)*C:=Nat.mul_le_mul_right C (by omega)
   rw[Nat.add_mul,Nat.one_mul]at this
   have:=List.mem_range.1 h3
   omega
theorem qoK{l:List Nat}(h:l.Pairwise (· < ·)):l.Nodup:=h.imp fun h=>by omega
def qgt(l:List Int)(foot:List Nat)(v:Int):List Int:=(List.range l.length).map fun i=>if i∈foot∧lv l i≠30000 then min (lv l i) v else lv l i
def qnD(l:List Int)(foot:List Nat)(v:Int):List Nat:=foot.filter fun i=>decide (lv l i≠30000∧v<lv l i)
theorem qaZ(l:List Int)(foot:List Nat)(v:Int):(qgt l foot v).length=l.length:=by simp[qgt]
theorem qdL{l:List Int}{foot:List Nat}{v:Int}{i:Nat}(hi:i<l.length):lv (qgt l foot v) i=if i∈foot∧lv l i≠30000 then min (lv l i) v else lv l i:=by
 rw[qbu (by rw[qaZ];exact hi)]
 simp[qgt]
theorem qrA{l:List Int}{i:Nat}(hi:l.length≤i):lv l i=30000:=by
 unfold lv
 rw[List.getD_eq_getElem?_getD,List.getElem?_eq_none hi]
 rfl
theorem qvJ{l:List Int}{v:Int}:qgt l [] v=l:=ql9 (qaZ _ _ _) fun i hi=>by
 rw[qaZ]at hi
 rw[qdL hi,if_neg]
 simp
theorem qAV{l:List Int}{foot:List Nat}{v:Int}{j:Nat}(hf:foot.Nodup)(hj:j<foot.length)(hi:foot[j]<l.length)(hk:lv l foot[j]≠30000)(h:v<lv l foot[j]):
  qgt l (foot.take (j+1)) v=(qgt l (foot.take j) v).set foot[j] v:=by
 refine ql9 (by simp[qaZ]) fun i hi2=>?_
 rw[qaZ]at hi2
 rw[qdL hi2,qkP (by rw[qaZ];exact hi),qdL hi2,List.take_succ_eq_append_getElem hj]
 by_cases e:foot[j]=i
 ·subst e
  rw[if_pos ⟨List.mem_append_right _ List.mem_cons_self,hk⟩,if_pos rfl]
  omega
 ·rw[if_neg e]
  have:i∈foot.take j++[foot[j]]↔i∈foot.take j:=by rw[List.mem_append,List.mem_singleton];exact⟨fun h=>h.resolve_right fun h=>e h.symm,.inl⟩
  simp only[this]
theorem qvK{l:List Int}{foot:List Nat}{v:Int}{j:Nat}(hj:j<foot.length)(h:lv l foot[j]=30000∨¬v<lv l foot[j]):
  qgt l (foot.take (j+1)) v=qgt l (foot.take j) v:=by
 refine ql9 (by simp[qaZ]) fun i hi2=>?_
 rw[qaZ]at hi2
 rw[qdL hi2,qdL hi2,List.take_succ_eq_append_getElem hj]
 by_cases e:foot[j]=i
 ·subst e
  rcases h with h|h
  ·simp[h]
  ·split<;>split<;>omega
 ·have:i∈foot.take j++[foot[j]]↔i∈foot.take j:=by rw[List.mem_append,List.mem_singleton];exact⟨fun h=>h.resolve_right fun h=>e h.symm,.inl⟩
  simp only[this]
theorem qzs{l:List Int}{foot:List Nat}{v:Int}{j:Nat}(hf:foot.Nodup)(hj:j<foot.length)(hi:foot[j]<l.length):lv (qgt l (foot.take j) v) foot[j]=lv l foot[j]:=by
 rw[qdL hi,if_neg]
 rintro⟨hm,_⟩
 obtain⟨k,hk,e⟩:=List.mem_iff_getElem.1 hm
 rw[List.length_take]at hk
 rw[List.getElem_take]at e
 have:=(List.getElem_inj (h₀:=by omega) (h₁:=hj) hf).1 e
 omega
theorem qAW{l:List Int}{foot:List Nat}{v:Int}{j:Nat}(hj:j<foot.length)(hk:lv l foot[j]≠30000)(h:v<lv l foot[j]):qnD l (foot.take (j+1)) v=qnD l (foot.take j) v++[foot[j]]:=by
 unfold qnD
 rw[List.take_succ_eq_append_getElem hj,List.filter_append]
 simp[hk,h]
theorem qzt{l:List Int}{foot:List Nat}{v:Int}{j:Nat}(hj:j<foot.length)(h:lv l foot[j]=30000∨¬v<lv l foot[j]):qnD l (foot.take (j+1)) v=qnD l (foot.take j) v:=by
 unfold qnD
 rw[List.take_succ_eq_append_getElem hj,List.filter_append]
 have:decide (lv l foot[j]≠30000∧v<lv l foot[j])=false:=decide_eq_false (by rintro⟨h1,h2⟩;rcases h with h|h;exact h1 h;exact h h2)
 rw[show [foot[j]].filter (fun i=>decide (lv l i≠30000∧v<lv l i))=[]by rw[List.filter_cons,this];rfl,List.append_nil]
theorem qvL{l:List Int}{foot:List Nat}{v:Int}(ha:foot.Pairwise (· < ·))(hl:∀i∈foot,i<l.length):(List.range l.length).filter (fun i=>decide (lv (qgt l foot v) i≠lv l i))=qnD l foot v:=by
 refine qzr (List.Pairwise.filter _ List.pairwise_lt_range) (ha.filter _) fun x=>?_
 simp only[List.mem_filter,List.mem_range,decide_eq_true_eq,qnD]
 constructor
 ·rintro⟨h1,h2⟩
  rw[qdL h1]at h2
  split at h2
  ·rename_i hc;exact⟨hc.1,hc.2,by omega⟩
  ·exact(h2 rfl).elim
 ·rintro⟨h1,h2,h3⟩
  refine⟨hl x h1,?_⟩
  rw[qdL (hl x h1),if_pos ⟨h1,h2⟩]
  omega
theorem qIa{l:List Int}{foot:List Nat}{v:Int}(i:Nat):lv (qgt l foot v) i≤lv l i:=by
 rcases Nat.lt_or_ge i l.length with h|h
 ·rw[qdL h];split<;>omega
 ·rw[qrA h,qrA (by rw[qaZ];exact h)];omega
theorem qvM{l:List Int}{foot:List Nat}{v:Int}(hv:v<30000)(i:Nat):lv (qgt l foot v) i=30000↔lv l i=30000:=by
 rcases Nat.lt_or_ge i l.length with h|h
 ·rw[qdL h]
  split
  ·rename_i hc;constructor
   ·intro h;omega
   ·intro h;exact(hc.2 h).elim
  ·exact Iff.rfl
 ·rw[qrA h,qrA (by rw[qaZ];exact h)]
theorem qCW{l:List Int}{f:List Nat}{v:Int}(hv:v<30000):qgt (qgt l f v) f v=qgt l f v:=by
 refine ql9 (by simp[qaZ]) fun i hi=>?_
 simp only[qaZ]at hi
 rw[qdL (l:=qgt l f v) (by rw[qaZ];exact hi)]
 have k1:=qvM (l:=l) (foot:=f) hv i
 have e1:=qdL (l:=l) (foot:=f) (v:=v) hi
 split
 ·rename_i hc
  rw[e1,if_pos ⟨hc.1,fun h=>hc.2 (k1.2 h)⟩]
  omega
 ·rfl
open Go Go.Proofs Go.Pv
set_option maxHeartbeats 8000000
set_option maxRecDepth 100000
set_option linter.unusedSimpArgs false
set_option linter.unusedVariables false
theorem qrB{α:Type}{p:α→Bool}{l:List α}(h:0≤qci p l):(qci p l).toNat<l.length:=by
 unfold qci at h ⊢
 split
 ·rename_i i hi
  have:=(List.findIdx?_eq_some_iff_getElem.1 hi).1
  simpa using this
 ·rename_i hi
  rw[hi]at h
  exact absurd h (by decide)
def qoL(g:Ground)(b:Boring)(i:Nat):Int:=match g.soils[(qa9 g.soils (qkD b i)).toNat]? with
 |some s=>s.a
 |none=>0
def qp3(g:Ground)(b:Boring):Nat→Int
 |0=>0
 |n+1=>max (qp3 g b n) (qoL g b n)
theorem qkQ{g:Ground}{b:Boring}(hb:OkBoring g.soils b){i:Nat}(hi:i<b.layers.length):∃(h1:0≤qa9 g.soils b.layers[i].soil) (h2:(qa9 g.soils b.layers[i].soil).toNat<g.soils.length),qoL g b i=(g.soils[(qa9 g.soils b.layers[i].soil).toNat]).a:=by
 have h1:=(hb.lay i hi).2.1
 have h2:(qa9 g.soils b.layers[i].soil).toNat<g.soils.length:=qrB h1
 refine⟨h1,h2,?_⟩
 have e:qkD b i=b.layers[i].soil:=by simp only[qkD,List.getElem?_eq_getElem hi]
 simp only[qoL,e]
 rw[List.getElem?_eq_getElem h2]
def qtD(g:Ground)(n:Nat):Int:=match g.borings[n]? with
 |some b=>qp3 g b b.layers.length
 |none=>0
theorem qIb(g:Ground)(hg:OkG g)(hs:g.soils.length<1000000000000)(p:Pt)(hp:ptOK p=true):Contract Tryz.prog 196 [.agg (qam g),.agg (encPt p)] (.ret (.int .i64 (qtD g (qbg g p)))):=by
 have hn:=qeJ (p:=p) hg.n.1
 have hb:=hg.bor _ hn
 have hll:=hb.len
 have e:qtD g (qbg g p)=qp3 g g.borings[qbg g p] g.borings[qbg g p].layers.length:=by simp only[qtD,List.getElem?_eq_getElem hn]
 rw[e]
 refine zT mix Tryz.func196 Tryz.ntmps196 Tryz.results196 rfl rfl rfl ?_;simp only[qac,Nat.reduceAdd]
 repeat'(first|((with_reducible apply qaj);rfl;(exact c47 g hg p hp);rfl)|refine zQ ?_|(refine zI ?_;intro hlt)|fail)
 refine qaf (g.borings[qbg g p].layers.length) (fun i=>⟨[(7,.int .i64 i),(6,.int .i64 (qp3 g g.borings[qbg g p] i)),(5,.sl (g.borings[qbg g p].layers.map qeB)),(2,.op 0 0 0)],[(0,⟨2,true,[qam g]⟩)],64,38⟩) (fun i=>True) (qaa (k:=0) (ns:=[]) (ks:=[7,6,5,2]) [(0,0)] rfl (by simp) rfl) trivial ?_
 intro i hi hC
 by_cases hlt:i<g.borings[qbg g p].layers.length
 ·obtain⟨h1,h2,h3⟩:=qkQ hb hlt
  repeat'(first|((with_reducible apply qaj);rfl;(exact c84 g.soils hs _);rfl)|((with_reducible apply(qdZ 15));decide +kernel;rfl)|refine zS ?_|refine zA ?_|(refine zI ?_;intro hlt)|(refine zC ?_ ?_<;>first|intro h|simp)|refine zE ?_|fail)
  all_goals try exact absurd hlt (by omega)
  refine⟨by omega,trivial,?_⟩
  have e':qp3 g g.borings[qbg g p] (i+1)=max (qp3 g g.borings[qbg g p] i) (g.soils[(qa9 g.soils g.borings[qbg g p].layers[i].soil).toNat]).a:=by
   rw[←h3];rfl
  rw[e']
  exact qaa (k:=0) (ns:=[]) (ks:=[7,6,5,2]) [(0,0)] rfl (by simp) rfl
 ·have e:i=g.borings[qbg g p].layers.length:=by omega
  subst e
  repeat'(first|((with_reducible apply(qdZ 15));decide +kernel;rfl)|(with_reducible rfl)|refine zS ?_|refine zA ?_|(refine zI ?_;intro hlt)|(refine zC ?_ ?_<;>first|intro h|simp)|refine zE ?_|fail)
  all_goals first|exact absurd ‹_› (by omega)|trace_state
theorem qrw.mono{N:Net}{w:Int}{l l':List Int}{i k:Nat}(hw:w= -1∨w=1)(h:qrw N w l i k)(hi:lv l' i=lv l i)(hk:0≤(lv l' k-lv l k)*w):qrw N w l' i k:=by
 unfold qrw at h ⊢
 rw[hi]
 rcases hw with rfl|rfl<;>omega
structure Work(N:Net)(w:Int)(m l:List Int)(mv:Int)(q:List Int):Prop where
 mid:Mid N w m l
 mv:mv=qeY w l-qeY w m
 qs:∀x∈q,∃k:Nat,k<m.length∧x=k
 fits:∀i k,i<l.length→k<l.length→N.nb i k→lv l i≠30000→lv l k≠30000→(i:Int)∉q→qrw N w l i k
 size:q.length+left w l≤m.length+left w m
structure WorkIn(N:Net)(w:Int)(m l:List Int)(mv:Int)(q:List Int)(i:Nat)(done:Nat→Prop):Prop where
 mid:Mid N w m l
 mv:mv=qeY w l-qeY w m
 qs:∀x∈q,∃k:Nat,k<m.length∧x=k
 fits:∀a k,a<l.length→k<l.length→N.nb a k→lv l a≠30000→lv l k≠30000→(a:Int)∉q→a≠i→qrw N w l a k
 own:∀k,k<l.length→N.nb i k→lv l k≠30000→done k→qrw N w l i k
 size:q.length+left w l<m.length+left w m
 known:i<l.length∧lv l i≠30000
theorem Work.enter{N:Net}{w:Int}{m l:List Int}{mv:Int}{q:List Int}{i:Nat}(h:Work N w m l mv ((i:Int)::q))(hk:lv l i≠30000):WorkIn N w m l mv q i fun _=>False:=by
 have hi:i<l.length:=by
  obtain⟨k,hk,e⟩:=h.qs i (by simp)
  have:=h.mid.below.1
  omega
 refine⟨h.mid,h.mv,fun x hx=>h.qs x (by simp[hx]),fun a k a1 a2 a3 a4 a5 a6 a7=>h.fits a k a1 a2 a3 a4 a5 ?_,fun _ _ _ _ hf=>hf.elim,?_,hi,hk⟩
 ·simp only[List.mem_cons,not_or]
  exact⟨by omega,a6⟩
 ·have:=h.size
  simp only[List.length_cons]at this
  omega
theorem Work.skip{N:Net}{w:Int}{m l:List Int}{mv:Int}{q:List Int}{i:Nat}(h:Work N w m l mv ((i:Int)::q))(hk:lv l i=30000):Work N w m l mv q:=by
 refine⟨h.mid,h.mv,fun x hx=>h.qs x (by simp[hx]),fun a k a1 a2 a3 a4 a5 a6=>h.fits a k a1 a2 a3 a4 a5 ?_,?_⟩
 ·simp only[List.mem_cons,not_or]
  refine⟨fun e=>?_,a6⟩
  have:a=i:=by omega
  subst this
  exact a4 hk
 ·have:=h.size
  simp only[List.length_cons]at this
  omega
theorem WorkIn.move{N:Net}{w:Int}(hw:w= -1∨w=1){m l:List Int}{mv:Int}{q:List Int}{i k:Nat}{done:Nat→Prop}(hN:N.Ok m.length)(h:WorkIn N w m l mv q i done)(hk:k<l.length)(hb:N.nb i k)(hu:lv l k≠30000)(hf:0<(lv l i-w*N.d i k-lv l k)*w):
  WorkIn N w m (l.set k (lv l i-w*N.d i k)) (mv+(lv l i-w*N.d i k-lv l k)*w) (q++[(k:Int)]) i (fun x=>done x∨x=k):=by
 have hki:i≠k:=fun e=>hN.irr i (by rw[e]at hb ⊢;exact hb)
 have hmid:=h.mid.step hN hw rfl h.known.1 hk hb h.known.2 hu hf
 have hl:=h.mid.below.1
 have e1:∀a,a≠k→lv (l.set k (lv l i-w*N.d i k)) a=lv l a:=fun a ha=>by rw[qkP hk,if_neg (fun e=>ha e.symm)]
 have e2:lv (l.set k (lv l i-w*N.d i k)) k=lv l i-w*N.d i k:=by rw[qkP hk,if_pos rfl]
 have e3:∀b,0≤(lv (l.set k (lv l i-w*N.d i k)) b-lv l b)*w:=fun b=>by
  by_cases hb:b=k
  ·subst hb;rw[e2];omega
  ·rw[e1 b hb];simp
 have e4:∀b,b<l.length→lv (l.set k (lv l i-w*N.d i k)) b≠30000→lv l b≠30000:=fun b hb hx=>by
  by_cases hbk:b=k
  ·subst hbk;exact hu
  ·rwa[e1 b hbk]at hx
 refine⟨hmid,?_,fun x hx=>?_,fun a b a1 a2 a3 a4 a5 a6 a7=>?_,fun b b1 b2 b3 b4=>?_,?_,?_⟩
 ·have:=qoI w (lv l i-w*N.d i k) l k hk
  rw[h.mv,Int.sub_mul]
  omega
 ·rcases List.mem_append.1 hx with hx|hx
  ·exact h.qs x hx
  ·simp only[List.mem_singleton]at hx
   exact⟨k,by omega,hx⟩
 ·rw[List.length_set]at a1 a2
  simp only[List.mem_append,List.mem_singleton,not_or]at a6
  have hak:a≠k:=by omega
  exact(h.fits a b a1 a2 a3 (e4 a a1 a4) (e4 b a2 a5) a6.1 a7).mono hw (e1 a hak) (e3 b)
 ·rw[List.length_set]at b1
  rcases b4 with b4|rfl
  ·exact(h.own b b1 b2 (e4 b b1 b3) b4).mono hw (e1 i hki) (e3 b)
  ·unfold qrw
   rw[e1 i hki,e2]
   simp
 ·have:=qoJ hN hw rfl h.mid h.known.1 hk hb h.known.2 hu hf
  have:=h.size
  simp only[List.length_append,List.length_cons,List.length_nil]
  omega
 ·rw[List.length_set,e1 i hki]
  exact h.known
theorem Work.done{N:Net}{w:Int}(hw:w= -1∨w=1){m l:List Int}{mv:Int}(hN:N.Ok m.length)(h:Work N w m l mv []):IsGS N w m l:=
 h.mid.done (qlr hN hw fun i k a b c d e=>h.fits i k a b c d e (by simp))
theorem Work.start{N:Net}{w:Int}{m:List Int}{q:List Int}(hm:∀i,i<m.length→lv m i≠30000→ -20000≤lv m i∧lv m i≤20000)(hl:q.length≤m.length)(hq:∀i,i<m.length→(i:Int)∈q)(hq':∀x∈q,∃k:Nat,k<m.length∧x=k):Work N w m m 0 q:=
 ⟨Mid.start hm,by omega,hq',fun i k h1 _ _ _ _ h6=>absurd (hq i h1) h6,by omega⟩
theorem Mid.try{N:Net}{w:Int}(hw:w= -1∨w=1){m l:List Int}(hN:N.Ok m.length)(h:Mid N w m l){i k:Nat}(hi:i<l.length)(hk:k<l.length)(hb:N.nb i k)(h1:lv l i≠30000)(h2:lv l k≠30000){v:Int}(hv:v=if 0<(lv l i-w*N.d i k-lv l k)*w then lv l i-w*N.d i k else lv l k):
  Mid N w m (l.set k v)∧left w (l.set k v)≤left w l∧(0<(lv l i-w*N.d i k-lv l k)*w→left w (l.set k v)<left w l):=by
 subst hv
 split
 ·rename_i hf
  have:=qoJ hN hw rfl h hi hk hb h1 h2 hf
  exact⟨h.step hN hw rfl hi hk hb h1 h2 hf,by omega,fun _=>this⟩
 ·rename_i hf
  have e:l.set k (lv l k)=l:=by rw[qbu hk];exact List.set_getElem_self hk
  rw[e]
  exact⟨h,Nat.le_refl _,fun h=>absurd h hf⟩
theorem qyc{x:Soil}(h:qiI x=0):1≤x.a∧x.a≤1000:=by
 unfold qiI at h
 split at h
 ·omega
 ·omega
theorem qvO{l:List Soil}(h:qdS l=0){i:Nat}(hi:i<l.length):qiI l[i]=0:=by
 unfold qdS at h
 split at h
 ·omega
 ·split at h
  ·omega
  ·exact(qhN h hi).2
theorem qvP{g:Ground}{b:Boring}(hg:OkG g)(hb:OkBoring g.soils b){i:Nat}(hi:i<b.layers.length):1≤qoL g b i∧qoL g b i≤1000:=by
 obtain⟨h1,h2,h3⟩:=qkQ hb hi
 rw[h3]
 exact qyc (qvO hg.soils h2)
theorem qvQ{g:Ground}{b:Boring}(hg:OkG g)(hb:OkBoring g.soils b):∀n,n≤b.layers.length→0≤qp3 g b n∧qp3 g b n≤1000∧(0<n→1≤qp3 g b n)
 |0,_=>⟨Int.le_refl _,(show(0:Int)≤1000 by decide),fun h=>absurd h (by omega)⟩
 |n+1,h=>by
  have h1:=qvQ hg hb n (by omega)
  have h2:=qvP hg hb (i:=n) (by omega)
  simp only[qp3]
  omega
theorem qAX{g:Ground}(hg:OkG g){n:Nat}(hn:n<g.borings.length):1≤qtD g n∧qtD g n≤1000:=by
 have hb:=hg.bor _ hn
 have e:qtD g n=qp3 g g.borings[n] g.borings[n].layers.length:=by simp only[qtD,List.getElem?_eq_getElem hn]
 rw[e]
 have:=qvQ hg hb _ (Nat.le_refl _)
 have:=hb.len
 omega
def qdu(g:Ground)(m:Grid)(i:Nat):Int:=qtD g (qbg g (qap m i))
theorem qea{g:Ground}(hg:OkG g)(m:Grid)(i:Nat):1≤qdu g m i∧qdu g m i≤1000:=qAX hg (qeJ hg.n.1)
def qbE(g:Ground)(m:Grid)(a b:Nat):Int:=10*m.side/max (qdu g m a) (qdu g m b)
theorem qAY(g:Ground)(m:Grid)(a b:Nat):qbE g m a b=qbE g m b a:=by simp only[qbE,Int.max_comm]
theorem qhY{g:Ground}(hg:OkG g){m:Grid}(hm:OkGrid m)(a b:Nat):1≤qbE g m a b∧qbE g m a b≤100000:=by
 have h1:=qea hg m a
 have h2:=qea hg m b
 have hs:=hm.bds.2.1
 unfold qbE
 constructor
 ·exact Int.le_ediv_of_mul_le (by omega) (by omega)
 ·exact Int.le_trans (Int.ediv_le_self _ (by omega)) (by omega)
structure Steep where
 high:Int
 low:Int
 over:Int
def qbH(s:Steep):List D:=[.int .i64 s.high,.int .i64 s.low,.int .i64 s.over]
theorem qf2:qeS qbH 3:=fun _=>⟨rfl,rfl⟩
def qcx(g:Ground)(m:Grid)(a:Nat)(b:Int):List Steep:=
 if b<a∨lv m.levels a=30000∨lv m.levels b.toNat=30000 then []
 else if lv m.levels a<lv m.levels b.toNat then(if 0<lv m.levels b.toNat-lv m.levels a-qbE g m a b.toNat then [⟨b,a,lv m.levels b.toNat-lv m.levels a-qbE g m a b.toNat⟩]else [])
 else(if 0<lv m.levels a-lv m.levels b.toNat-qbE g m a b.toNat then [⟨a,b,lv m.levels a-lv m.levels b.toNat-qbE g m a b.toNat⟩]else [])
def qdE(g:Ground)(m:Grid)(a:Nat)(l:List Int):List Steep:=l.flatMap (qcx g m a)
def qcW(g:Ground)(m:Grid)(n:Nat):List Steep:=(List.range n).flatMap fun a=>qdE g m a (qbo m a m.levels.length)
theorem qm8(g:Ground)(m:Grid)(a:Nat){l:List Int}{j:Nat}(hj:j<l.length):qdE g m a (l.take (j+1))=qdE g m a (l.take j)++qcx g m a l[j]:=by
 rw[List.take_succ_eq_append_getElem hj];simp only[qdE,List.flatMap_append,List.flatMap_cons,List.flatMap_nil,List.append_nil]
theorem qkR(g:Ground)(m:Grid)(n:Nat):qcW g m (n+1)=qcW g m n++qdE g m n (qbo m n m.levels.length):=by
 simp[qcW,List.range_succ]
theorem qkS(g:Ground)(m:Grid)(a:Nat)(b:Int):(qcx g m a b).length≤1:=by
 unfold qcx
 (repeat' split)<;>simp
theorem qi8(g:Ground)(m:Grid)(a:Nat):∀l:List Int,(qdE g m a l).length≤l.length
 |[]=>by simp[qdE]
 |b::l=>by
  have:=qi8 g m a l
  have:=qkS g m a b
  simp only[qdE,List.flatMap_cons,List.length_append,List.length_cons]at*
  omega
theorem qgv(g:Ground)(m:Grid):∀n,(qcW g m n).length≤n*m.levels.length
 |0=>by simp[qcW]
 |n+1=>by
  have h1:=qgv g m n
  have h2:=qi8 g m n (qbo m n m.levels.length)
  have h3:=qeo m n m.levels.length
  rw[qkR,List.length_append,Nat.succ_mul]
  omega
theorem qeZ(g:Grid)(i:Nat)(x:Int):∀n,x∈qbo g i n↔∃k:Nat,k<n∧x=k∧qdr g i k=true
 |0=>by simp[qbo]
 |n+1=>by
  have ih:=qeZ g i x n
  simp only[qbo]
  split
  ·rename_i h
   simp only[List.mem_append,ih,List.mem_singleton]
   constructor
   ·rintro(⟨k,h1,h2,h3⟩|h1)
    ·exact⟨k,by omega,h2,h3⟩
    ·exact⟨n,by omega,h1,h⟩
   ·rintro⟨k,h1,h2,h3⟩
    by_cases e:k=n
    ·subst e;exact .inr h2
    ·exact .inl ⟨k,by omega,h2,h3⟩
  ·rename_i h
   rw[ih]
   constructor
   ·rintro⟨k,h1,h2,h3⟩
    exact⟨k,by omega,h2,h3⟩
   ·rintro⟨k,h1,h2,h3⟩
    refine⟨k,?_,h2,h3⟩
    by_cases e:k=n
    ·subst e;exact absurd h3 h
    ·omega
def qCX(m:Grid)(l:List Int):Grid:=⟨m.x,m.y,m.side,m.cols,m.rows,l⟩
theorem OkGrid.rng{m:Grid}(h:OkGrid m):∀i,i<m.levels.length→lv m.levels i≠30000→ -20000≤lv m.levels i∧lv m.levels i≤20000:=by
 intro i hi hk
 rw[qbu hi]at hk ⊢
 rcases h.lvl i hi with h|h
 ·exact absurd h hk
 ·simpa[qhp]using h
structure Share where
 soil:ByteArray
 vol:Int
def qa5(s:Share):List D:=[.str s.soil,.int .i64 s.vol]
theorem qoN:qeS qa5 2:=fun _=>⟨rfl,rfl⟩
def qrF(l:List Share)(k:Nat)(v:Int):List Share:=match l[k]? with
 |some s=>l.set k ⟨s.soil,s.vol+v⟩
 |none=>l
theorem qnc{l:List Share}{k:Nat}(h:k<l.length)(v:Int):qrF l k v=l.set k ⟨l[k].soil,l[k].vol+v⟩:=by
 simp only[qrF,List.getElem?_eq_getElem h]
theorem qrG(l:List Share)(k:Nat)(v:Int):(qrF l k v).length=l.length:=by
 unfold qrF
 split<;>simp
def qh0(g:Ground)(side:Int)(L:List Share)(C:List Part):Nat→List Share
 |0=>L
 |j+1=>match C[j]? with
  |some p=>qrF (qh0 g side L C j) (qa9 g.soils p.soil).toNat ((p.top-p.bottom)*side*side)
  |none=>qh0 g side L C j
theorem qh1(g:Ground)(side:Int)(L:List Share){C:List Part}{j:Nat}(h:j<C.length):qh0 g side L C (j+1)=qrF (qh0 g side L C j) (qa9 g.soils C[j].soil).toNat ((C[j].top-C[j].bottom)*side*side):=by
 simp only[qh0,List.getElem?_eq_getElem h]
theorem qh2(g:Ground)(side:Int)(L:List Share)(C:List Part):∀j,(qh0 g side L C j).length=L.length
 |0=>rfl
 |j+1=>by
  have ih:=qh2 g side L C j
  simp only[qh0]
  split
  ·rw[qrG,ih]
  ·exact ih
def qco(g:Ground)(m a:Grid)(i:Nat):List Part:=qaD g (qap m i) (lv m.levels i) (lv a.levels i)
def qaT(g:Ground)(m a:Grid):Nat→List Share
 |0=>g.soils.map fun s=>⟨s.name,0⟩
 |i+1=>if lv m.levels i≠30000∧lv a.levels i≠30000 then qh0 g m.side (qaT g m a i) (qco g m a i) (qco g m a i).length else qaT g m a i
theorem qdw(g:Ground)(m a:Grid):∀i,(qaT g m a i).length=g.soils.length
 |0=>by simp[qaT]
 |i+1=>by
  have ih:=qdw g m a i
  simp only[qaT]
  split
  ·rw[qh2,ih]
  ·exact ih
theorem qp7{b:Boring}{f t:Int}{p:Part}:∀{n:Nat},p∈qij b f t n→∃k,k<n∧p=qcu b f t k∧p.bottom<p.top
 |0,h=>by simp[qij]at h
 |n+1,h=>by
  simp only[qij]at h
  split at h
  ·rename_i hb
   rcases List.mem_append.1 h with h|h
   ·obtain⟨k,h1,h2,h3⟩:=qp7 h
    exact⟨k,by omega,h2,h3⟩
   ·simp only[List.mem_singleton]at h
    subst h
    exact⟨n,by omega,rfl,hb⟩
  ·obtain⟨k,h1,h2,h3⟩:=qp7 h
   exact⟨k,by omega,h2,h3⟩
theorem qfo{g:Ground}(hg:OkG g){p:Pt}{f t:Int}{q:Part}(h:q∈qaD g p f t):q.bottom<q.top∧t≤q.bottom∧q.top≤f∧0≤qa9 g.soils q.soil∧(qa9 g.soils q.soil).toNat<g.soils.length:=by
 have hn:=qeJ (p:=p) hg.n.1
 have hb:=hg.bor _ hn
 have e:qaD g p f t=qij g.borings[qbg g p] f t g.borings[qbg g p].layers.length:=by
  simp only[qaD,List.getElem?_eq_getElem hn]
 rw[e]at h
 obtain⟨k,hk,rfl,h3⟩:=qp7 h
 have hbd:=qrf (b:=g.borings[qbg g p]) (f:=f) (t:=t) (n:=k)
 rw[qkE hk]
 have h4:=(hb.lay k hk).2.1
 exact⟨h3,hbd.1,hbd.2,h4,qrB h4⟩
theorem qp8{g:Ground}(hg:OkG g)(p:Pt)(f t:Int):(qaD g p f t).length≤12:=by
 have hn:=qeJ (p:=p) hg.n.1
 have:=qhP g.borings[qbg g p] f t g.borings[qbg g p].layers.length
 have:=(hg.bor _ hn).len
 simp only[qaD,List.getElem?_eq_getElem hn]
 omega
theorem qvV{g:Ground}(hg:OkG g){p:Pt}{f t:Int}(h:f≤t):qaD g p f t=[]:=by
 cases hc:qaD g p f t with
 |nil=>rfl
 |cons q r=>
  have:=qfo hg (p:=p) (f:=f) (t:=t) (q:=q) (by rw[hc];exact List.mem_cons_self)
  omega
def VB(l:List Share)(B:Int):Prop:=∀i (h:i<l.length),0≤l[i].vol∧l[i].vol≤B
theorem VB.mono{l:List Share}{B B':Int}(h:VB l B)(hb:B≤B'):VB l B':=fun i hi=>by have:=h i hi;omega
theorem qAZ{l:List Share}{B v V:Int}{k:Nat}(h:VB l B)(hv:0≤v∧v≤V)(hV:0≤V):VB (qrF l k v) (B+V):=by
 intro i hi
 rw[qrG]at hi
 have h1:=h i hi
 by_cases hk:k<l.length
 ·simp only[qnc hk]
  by_cases e:k=i
  ·subst e
   simp only[List.getElem_set_self]
   omega
  ·simp only[List.getElem_set_ne e]
   omega
 ·have e:qrF l k v=l:=by
   unfold qrF
   rw[List.getElem?_eq_none (by omega)]
  simp only[e]
  omega
theorem qvW{d s:Int}(hd:0≤d∧d≤40000)(hs:100≤s∧s≤10000):(0≤d*s∧d*s≤400000000)∧(0≤d*s*s∧d*s*s≤4000000000000)∧(0≤s*s∧s*s≤100000000)∧s*s*d=d*s*s:=by
 have h1:=qbx (a:=d) (b:=s) (m:=40000) (n:=10000) hd (by omega)
 have h2:=qbx (a:=d*s) (b:=s) (m:=400000000) (n:=10000) (by omega) (by omega)
 have h3:=qbx (a:=s) (b:=s) (m:=10000) (n:=10000) (by omega) (by omega)
 refine⟨by omega,by omega,by omega,?_⟩
 rw[Int.mul_comm (s*s) d,Int.mul_assoc]
theorem qnd{g:Ground}{side:Int}{L:List Share}{C:List Part}{B:Int}(hs:100≤side∧side≤10000)(h:VB L B)(hC:∀q∈C,0≤q.top-q.bottom∧q.top-q.bottom≤40000):∀j,VB (qh0 g side L C j) (B+4000000000000*(j:Int))
 |0=>by simpa[qh0]using h
 |j+1=>by
  have ih:=qnd (g:=g) hs h hC j
  by_cases hj:j<C.length
  ·rw[qh1 g side L hj]
   have hv:=qvW (hC _ (List.getElem_mem hj)) hs
   exact(qAZ ih hv.2.1 (by omega)).mono (by omega)
  ·simp only[qh0]
   rw[List.getElem?_eq_none (by omega)]
   exact ih.mono (by omega)
theorem qmb{m:Grid}(hm:OkGrid m){i:Nat}(hi:i<m.levels.length): -20000≤lv m.levels i∧lv m.levels i≤30000:=by
 have:=hm.rng i hi
 omega
theorem qiL{g:Ground}(hg:OkG g){m a:Grid}(hm:OkGrid m)(ha:OkGrid a)(hl:a.levels.length=m.levels.length){i:Nat}(hi:i<m.levels.length)(hk:lv m.levels i≠30000∧lv a.levels i≠30000):∀q∈qco g m a i,0≤q.top-q.bottom∧q.top-q.bottom≤40000:=fun q hq=>by
 have h:=qfo hg hq
 have r1:=hm.rng i hi hk.1
 have r2:=ha.rng i (by omega) hk.2
 omega
theorem qh3{g:Ground}(hg:OkG g){m a:Grid}(hm:OkGrid m)(ha:OkGrid a)(hl:a.levels.length=m.levels.length):∀i,i≤m.levels.length→VB (qaT g m a i) (48000000000000*(i:Int))
 |0,_=>fun i hi=>by simp[qaT]
 |i+1,h=>by
  have ih:=qh3 hg hm ha hl i (by omega)
  simp only[qaT]
  split
  ·rename_i hk
   have:=qnd (g:=g) hm.bds.2.1 ih (qiL hg hm ha hl (by omega) hk) (qco g m a i).length
   have hcl:=qp8 hg (qap m i) (lv m.levels i) (lv a.levels i)
   have hcl:(qco g m a i).length≤12:=hcl
   exact this.mono (by omega)
  ·exact ih.mono (by omega)
instance qIi:TEq Tryz.prog 76 [.s,.i]:=⟨by kernel_rfl⟩
end Go.Pv.Soil
namespace Go.Pv.Geo
theorem qtk{l:List Pt}{i j:Nat}(h:i%l.length=j%l.length):qae l i=qae l j:=by unfold qae;rw[h]
theorem qtl(l:List Pt)(i:Nat):qae l (i+l.length)=qae l i:=qtk (by simp)
end Go.Pv.Geo
open Go Go.Proofs Go.Pv
set_option maxHeartbeats 8000000
set_option maxRecDepth 100000
set_option linter.unusedSimpArgs false
set_option linter.unusedVariables false
namespace Go.Pv.Soil
def qlt(g:Grid):List D:=[.int .i64 g.x,.int .i64 g.y,.int .i64 g.side,.int .i64 g.cols,.int .i64 g.rows]
theorem qJT(n:Int):Contract Tryz.prog 288 [.int .i64 n] (.ret (.int .i64 30000)):=by
 refine zT mix Tryz.func288 Tryz.ntmps288 Tryz.results288 rfl rfl rfl ?_;simp only[qac,Nat.reduceAdd]
 repeat'(first|(with_reducible rfl)|refine zQ ?_|refine zE ?_|fail)
def qkX(n i:Nat):List Int:=List.replicate i 30000++List.replicate (n-i) 0
theorem qC3(n:Nat):List.replicate ((n:Int).toNat) (qah (D.int .i64 0))=(qkX n 0).map qak:=by
 show List.replicate n _=_
 simp[qkX,qak,qah]
theorem qC4(n:Nat):List.replicate n (30000:Int)=qkX n n:=by simp[qkX]
theorem qrR{n i:Nat}(h:i≤n):(qkX n i).length=n:=by simp[qkX];omega
theorem qyl{n i:Nat}(h:i<n):(qkX n i).set i 30000=qkX n (i+1):=by
 unfold qkX
 obtain⟨k,hk⟩:∃k,n-i=k+1:=⟨n-i-1,by omega⟩
 rw[hk,show n-(i+1)=k by omega,List.set_append_right _ _ (by simp),List.length_replicate,Nat.sub_self,List.replicate_succ,List.set_cons_zero,List.replicate_succ' (n:=i),List.append_assoc]
 rfl
theorem qJU(m:Grid)(hl:m.levels.length≤1000000000):Contract Tryz.prog 287 [.agg (encGrid m),.clo (.func 288) [] []] (.ret (.agg (qlt m++[.fr 1 ((List.replicate m.levels.length (30000:Int)).map qak)]))):=by
 refine zT mix Tryz.func287 Tryz.ntmps287 Tryz.results287 rfl rfl rfl ?_;simp only[qac,Nat.reduceAdd]
 repeat'(first|refine zQ ?_|fail)
 refine qi1 (e:=3) (k:=.i64) (k':=.i64) (m:=m.levels.length) (m':=m.levels.length) (z:=.int .i64 0) Tryz.underlying22 rfl rfl (by kernel_rfl) ⟨rfl,by kernel_rfl,by decide +kernel,by omega,rfl,by omega,?_⟩ rfl ?_
 ·have:Tryz.prog.bytesOf 3=8:=by kernel_rfl
  rw[this];omega
 rw[qC3]
 repeat'(first|refine zQ ?_|fail)
 refine qaf m.levels.length (fun i=>⟨[(16,.int .i64 i),(15,.int .i64 m.levels.length),(14,.os 3 0 m.levels.length),(5,.op 2 0 0),(4,.op 1 0 0),(1,.clo (.func 288) [] [])],[(1,⟨6,false,[[.int .i64 0,.int .i64 0,.int .i64 0,.int .i64 0,.int .i64 0,.nilsl]]⟩),(2,⟨6,false,[qlt m++[.os 3 0 m.levels.length]]⟩),(3,⟨1,true,(qkX m.levels.length i).map qak⟩)],32,28⟩) (fun i=>True)
  (qaa (nx:=32) (k:=0) (ns:=[]) (ks:=[16,15,14,5,4,1]) [(32,1),(96,2),(256,3)] rfl (by simp) (by kernel_rfl)) trivial ?_
 intro i hi _
 by_cases hlt:i<m.levels.length
 ·have hle:=qrR (n:=m.levels.length) (i:=i) (by omega)
  repeat'(first|refine zQ ?_|(refine zC ?_ ?_<;>first|intro h|simp)|fail)
  rotate_left
  ·exfalso;omega
  refine qlP (g:=288) (ys:=[]) (d1:=.int .i64 i) rfl rfl (fun _ _=>rfl) (qJT i) rfl ?_
  repeat'(first|refine zA ?_|(refine zI ?_;intro hlt)|fail)
  refine qaA (f:=qak) (l:=qkX m.levels.length i) (a:=30000) rfl rfl rfl (by omega) rfl rfl rfl rfl (Nat.le_refl _) rfl ?_
  rw[qyl (n:=m.levels.length) (i:=i) (by omega)]
  repeat'(first|refine zQ ?_|fail)
  exact⟨by omega,trivial,qaa (nx:=32) (k:=0) (ns:=[]) (ks:=[16,15,14,5,4,1]) [(1,1),(2,2),(3,3)] rfl (by simp) (by kernel_rfl)⟩
 ·have e:i=m.levels.length:=by omega
  subst e
  rw[qC4]
  repeat'(first|refine zQ ?_|(refine zC ?_ ?_<;>first|intro h|simp)|fail)
  ·exfalso;omega
  ·exact qbh (qpN (cs:=qlt m) (len:=m.levels.length) rfl rfl (by simp[qrR]) rfl)
def qjH(m:Grid)(k:Nat):Geo.Pt:=⟨(qap m k).x,(qap m k).y⟩
noncomputable def qil(q:Quay)(m:Grid)(k:Nat):Int:=if(qf6 q (qjH m k)).2=true then(qf6 q (qjH m k)).1 else 30000
noncomputable def qlu(q:Quay)(m:Grid)(n i:Nat):List Int:=(List.range n).map fun k=>if k<i then qil q m k else 30000
theorem qFR(q:Quay)(m:Grid)(n:Nat):List.replicate n (30000:Int)=qlu q m n 0:=by
 apply List.ext_getElem<;>simp[qlu]
theorem qnf{q:Quay}{m:Grid}{n i:Nat}:(qlu q m n i).length=n:=by simp[qlu]
theorem qA7{q:Quay}{m:Grid}{n i:Nat}(h:(qf6 q (qjH m i)).2=true):(qlu q m n i).set i (qf6 q (qjH m i)).1=qlu q m n (i+1):=by
 apply List.ext_getElem
 ·simp[qlu]
 ·intro j h1 h2
  simp only[List.getElem_set,qlu,List.getElem_map,List.getElem_range]
  by_cases hj:i=j
  ·subst hj;rw[if_pos rfl,if_pos (by omega),qil,if_pos h]
  ·rw[if_neg hj]
   by_cases hlt:j<i
   ·rw[if_pos hlt,if_pos (by omega)]
   ·rw[if_neg hlt,if_neg (by omega)]
theorem qC5{q:Quay}{m:Grid}{n i:Nat}(h:(qf6 q (qjH m i)).2=false):qlu q m n i=qlu q m n (i+1):=by
 apply List.ext_getElem
 ·simp[qlu]
 ·intro j h1 h2
  simp only[qlu,List.getElem_map,List.getElem_range]
  by_cases hj:i=j
  ·subst hj;rw[if_neg (by omega),if_pos (by omega),qil,if_neg (by rw[h];simp)]
  ·by_cases hlt:j<i
   ·rw[if_pos hlt,if_pos (by omega)]
   ·rw[if_neg hlt,if_neg (by omega)]
def qGg(v:Int×Int×Int):List D:=[.int .i64 v.1,.int .i64 v.2.1,.int .i64 v.2.2]
theorem aSites:ReadsA Tryz.prog [34,37,38] (fun x:Site×Dred×List Cut=>Wide x.1∧x.2.1.outs.length≤9223372036854775807∧x.2.2.length≤9223372036854775807)
  (fun x=>[.agg (encSite x.1),.agg (encDred x.2.1),.sl (x.2.2.map encCut)]):=
 (qdl Tryz.underlying34 qDM (g:=fun c=>.agg (encSite c)) (.inr ⟨rfl,fun _=>rfl⟩) (qdl Tryz.underlying37 qDK (g:=fun c=>.agg (encDred c)) (.inr ⟨rfl,fun _=>rfl⟩) (qdl Tryz.underlying38 qGe (g:=fun c=>.sl (c.map encCut)) (.inl ⟨rfl,fun _=>rfl⟩) qlQ))).map
  (fun x=>(x.1,x.2.1,x.2.2.1)) (fun _ _=>rfl) (fun _ h=>⟨(h.1),(lm h.2.1),(lm h.2.2.1.1)⟩)
theorem aBed:ReadsA Tryz.prog [34,24,51] (fun x:Site×Grid×Cut=>Wide x.1∧x.2.1.levels.length≤9223372036854775807∧True)
  (fun x=>[.agg (encSite x.1),.agg (encGrid x.2.1),.agg (encCut x.2.2)]):=
 (qdl Tryz.underlying34 qDM (g:=fun c=>.agg (encSite c)) (.inr ⟨rfl,fun _=>rfl⟩) (qdl Tryz.underlying24 qzR (g:=fun c=>.agg (encGrid c)) (.inr ⟨rfl,fun _=>rfl⟩) (qdl Tryz.underlying51 qIo (g:=fun c=>.agg (encCut c)) (.inr ⟨rfl,fun _=>rfl⟩) qlQ))).map
  (fun x=>(x.1,x.2.1,x.2.2.1)) (fun _ _=>rfl) (fun _ h=>⟨(h.1),(lm h.2.1),(trivial)⟩)
end Go.Pv.Soil

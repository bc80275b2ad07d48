import Derived.Test.YtfklpkgdobdbpaaGreatCBC
/- Part of the proofs over YtfklpkgdobdbpaaGreat: S35, V1, N16. -/
set_option linter.unusedVariables false
set_option linter.unusedSimpArgs false
set_option linter.unnecessarySimpa false
open Go Go.Proofs Go.Pv
set_option maxHeartbeats 8000000
set_option maxRecDepth 100000
set_option linter.unusedSimpArgs false
set_option linter.unusedVariables false
namespace Go.Pv.Soil
def qjG(g:Ground)(m:Grid):Nat→St
 |0=>⟨[(12,.int .i64 0),(11,.int .i64 m.levels.length),(5,.op 3 0 0),(4,.op 2 0 0),(3,.op 1 0 0),(2,.op 0 0 0)],
   [(0,⟨2,true,[qam g]⟩),(1,⟨6,true,[encGrid m]⟩),(2,⟨7,false,[[.int .i64 0,.int .i64 0,.int .i64 0,.int .i64 0,.int .i64 0,.nilsl,.nilsl]]⟩),(3,⟨7,false,[encGrid m++[.nilsl]]⟩)],32,29⟩
 |i+1=>⟨[(12,.int .i64 ((i+1:Nat):Int)),(11,.int .i64 m.levels.length),(5,.op 3 0 0),(4,.op 2 0 0),(3,.op 1 0 0),(2,.op 0 0 0)],
   [(0,⟨2,true,[qam g]⟩),(1,⟨6,true,[encGrid m]⟩),(2,⟨7,false,[[.int .i64 0,.int .i64 0,.int .i64 0,.int .i64 0,.int .i64 0,.nilsl,.nilsl]]⟩),(3,⟨7,false,[encGrid m++[.os 4 0 (i+1)]]⟩),(4,⟨1,true,((List.range (i+1)).map (qdu g m)).map qak⟩)],32,29⟩
theorem c94(g:Ground)(hg:OkG g)(hs:g.soils.length<1000000000000)(m:Grid)(hm:OkGrid m)(h0:qa8 m=0):Contract Tryz.prog 213 [.agg (qam g),.agg (encGrid m)] (.ret (.agg (encGrid m++[.fr 1 ((qm9 g m).map qak)]))):=by
 have hsm:=hm.small
 have hbl:g.borings.length<1000000000000:=by have:=hg.n;omega
 have hlen:=hm.len
 have hcr:=qkF hm.bds.2.2.1 hm.bds.2.2.2
 refine zT mix Tryz.func213 Tryz.ntmps213 Tryz.results213 rfl rfl rfl ?_;simp only[qac,Nat.reduceAdd]
 repeat'(first|refine zQ ?_|fail)
 refine qaf m.levels.length (qjG g m) (fun _=>True) (qaa (nx:=32) (k:=1) (ns:=[]) (ks:=[12,11,5,4,3,2]) [(0,0),(32,1),(64,2),(160,3)] rfl (by simp) (by kernel_rfl)) trivial ?_
 intro i hi _
 match i with
 |0=>
  have hi':0<m.levels.length:=by omega
  have hc:=qda hm hi'
  simp only[qjG]
  repeat'(first|((with_reducible (show qan _ (.call _) _ _ _ _));first|((with_reducible apply qb2);rfl;(exact qEQ m hm 0 hi' h0);rfl;(exact zL rfl);rfl)|((with_reducible apply qaj);rfl;(exact c98 g hbl _);rfl)|((with_reducible apply qaj);rfl;(exact qIc g hg hs _ (qeJ hg.n.1));rfl))|refine zQ ?_|(refine zC ?_ ?_<;>first|intro h|simp)|fail)
  ·refine qb0 (qeT (f:=qak) qbw rfl rfl rfl rfl (by kernel_rfl) (by kernel_rfl)) rfl ?_
   repeat'(first|refine zQ ?_|fail)
   exact⟨hi',trivial,qaa (nx:=32) (k:=1) (ns:=[]) (ks:=[12,11,5,4,3,2]) [(0,0),(1,1),(2,2),(3,3),(448,4)] rfl (by simp) (by kernel_rfl)⟩
  ·exact absurd hi' (by omega)
 |i+1=>
  by_cases hlt:i+1<m.levels.length
  ·have hc:=qda hm hlt
   simp only[qjG]
   repeat'(first|((with_reducible (show qan _ (.call _) _ _ _ _));first|((with_reducible apply qb2);rfl;(exact qEQ m hm (i+1) hlt h0);rfl;(exact zL rfl);rfl)|((with_reducible apply qaj);rfl;(exact c98 g hbl _);rfl)|((with_reducible apply qaj);rfl;(exact qIc g hg hs _ (qeJ hg.n.1));rfl))|refine zQ ?_|(refine zC ?_ ?_<;>first|intro h|simp)|fail)
   ·refine qaE (f:=qak) (l:=(List.range (i+1)).map (qdu g m)) qbw rfl rfl rfl (by simp) rfl rfl (by kernel_rfl) (by kernel_rfl) (by omega) rfl ?_
    repeat'(first|refine zQ ?_|fail)
    have e:(List.range (i+1)).map (qdu g m)++[qtD g (qbg g (qap m (i+1)))]=(List.range (i+1+1)).map (qdu g m):=by
     rw[List.range_succ (n:=i+1),List.map_append];rfl
    rw[e]
    exact⟨hlt,trivial,qaa (nx:=32) (k:=1) (ns:=[]) (ks:=[12,11,5,4,3,2]) [(0,0),(1,1),(2,2),(3,3),(4,4)] rfl (by simp) (by kernel_rfl)⟩
   ·exact absurd hlt (by omega)
  ·simp only[qjG]
   repeat'(first|refine zQ ?_|(refine zC ?_ ?_<;>first|intro h|simp)|fail)
   ·exact absurd hlt (by omega)
   ·have e:i+1=m.levels.length:=by omega
    have er:qm9 g m=(List.range (i+1)).map (qdu g m):=by rw[qm9,←e]
    rw[er]
    exact qbh (qpN (cs:=encGrid m) (len:=i+1) rfl rfl (by simp) rfl)
open Classical in
theorem qA9{q:Quay}(hq:qeI q=0)(m:Grid)(k:Nat)(hp:Geo.ptOK (qjH m k)=true):qil q m k=if qmf q (qjH m k)then(if qgQ q (qjH m k)< -20000 then 30000 else qgQ q (qjH m k))else 30000:=by
 unfold qil qf6
 by_cases hf:qmf q (qjH m k)
 ·rw[if_pos hf,if_pos hf]
  by_cases hl:qgQ q (qjH m k)< -20000
  ·rw[if_pos hl];simp only[decide_eq_false (show ¬ -20000≤qgQ q (qjH m k)by omega)];rfl
  ·rw[if_neg hl];simp only[decide_eq_true (show -20000≤qgQ q (qjH m k)by omega)];rfl
 ·rw[if_neg hf,if_neg hf];rfl
theorem qym(q:Quay)(hq:qeI q=0)(m:Grid)(k:Nat)(hp:Geo.ptOK (qjH m k)=true):Contract Tryz.prog 63 [.agg (qcf q),.agg (gP (qjH m k))] (.ret (.int .i64 (qil q m k))):=by
 have hv:=qA9 hq m k hp
 obtain⟨⟨ka,kb⟩,⟨kt,kr⟩,hne⟩:=qve hq
 generalize qjH m k=p at*
 have x1:Contract Tryz.prog 140 [.agg (gP q.a),.agg (gP q.b),.agg (gP p)] (.ret (.int .i64 (Geo.alongE q.a q.b p))):=Geo.c_rAlong q.a q.b p ka kb hp hne
 have x2:Contract Tryz.prog 142 [.agg (gP q.a),.agg (gP q.b),.agg (gP p)] (.ret (.int .i64 (Geo.offE q.a q.b p))):=Geo.c_rOffset q.a q.b p ka kb hp hne
 have x3:Contract Tryz.prog 139 [.agg (gP q.a),.agg (gP q.b),.agg (gP p)] (.ret (.int .i64 (Geo.signE (Geo.crossE q.a q.b p)))):=Geo.c_rorient q.a q.b p ka kb hp
 have x4:Contract Tryz.prog 141 [.agg (gP q.a),.agg (gP q.b)] (.ret (.int .i64 (Geo.spanE (Geo.sqE q.a q.b)))):=Geo.c_rSpan q.a q.b ka kb
 have ho:=qzx ka kb hp
 have ht: -20000≤q.toe∧q.toe≤20000:=by simpa[qhp]using kt
 have hd:0≤10*Geo.offE q.a q.b p/q.run:=Int.ediv_nonneg (by omega) (by omega)
 have hd2:10*Geo.offE q.a q.b p/q.run≤80000000000000:=Int.le_trans (Int.ediv_le_self _ (by omega)) (by omega)
 have hsg:Geo.signE (Geo.crossE q.a q.b p)<0↔¬0≤Geo.crossE q.a q.b p:=by unfold Geo.signE;(repeat' split)<;>omega
 unfold qmf qgQ at hv
 unfold gP at x1 x2 x3 x4 ⊢
 generalize Geo.alongE q.a q.b p=A at*
 generalize Geo.offE q.a q.b p=O at*
 generalize Geo.signE (Geo.crossE q.a q.b p)=G at*
 generalize Geo.crossE q.a q.b p=C at*
 generalize Geo.spanE (Geo.sqE q.a q.b)=T at*
 rw[hv]
 clear hv
 refine zT mix Tryz.func63 Tryz.ntmps63 Tryz.results63 rfl rfl rfl ?_;simp only[qac,Nat.reduceAdd]
 repeat'(first|((with_reducible apply qad);rfl;(exact Geo.c_within _ _ _);rfl)|refine zQ ?_|refine zF x1 ?_|refine zF x2 ?_|refine zF x3 ?_|refine zF x4 ?_|(refine zC ?_ ?_<;>first|intro h|simp)|(refine zG ?_ ?_<;>first|intro h|simp)|refine zE ?_|fail)
 all_goals first
  |(exfalso;omega)
  |(rw[if_pos (by omega),if_pos (by omega)];done)
  |(rw[if_pos (by omega),if_neg (by omega)];done)
  |(rw[if_neg (by omega)];done)
  |trace_state
def qhq(d:Dred)(l:List Share):Int:=(l.map fun x=>if x.vol=0 then 0 else upI (60*x.vol) (1000000*(qcy d x.soil).rate)).sum
def qtF(d:Dred)(l:List Share):Int:=(l.map fun x=>if x.vol=0 then 0 else upI (x.vol*(qcy d x.soil).wear) 1000000).sum
def qto(d:Dred)(l:List Share):Bool:=l.any fun x=>decide (x.vol≠0)&&decide (qgD d x.soil<0)
def qjb(d:Dred)(l:List Share):Int×Int×Bool:=if qto d l=true then(0,0,false)else(qhq d l,qtF d l+upI (qhq d l*d.hour) 60,true)
theorem qrS(l:List Int)(a:Int):(l++[a]).sum=l.sum+a:=by simp
theorem qf8{d:Dred}{l:List Share}{i:Nat}(h:i<l.length):qhq d (l.take (i+1))=qhq d (l.take i)+(if l[i].vol=0 then 0 else upI (60*l[i].vol) (1000000*(qcy d l[i].soil).rate)):=by
 unfold qhq;rw[List.take_succ_eq_append_getElem h,List.map_append,List.map_singleton,qrS]
theorem qf9{d:Dred}{l:List Share}{i:Nat}(h:i<l.length):qtF d (l.take (i+1))=qtF d (l.take i)+(if l[i].vol=0 then 0 else upI (l[i].vol*(qcy d l[i].soil).wear) 1000000):=by
 unfold qtF;rw[List.take_succ_eq_append_getElem h,List.map_append,List.map_singleton,qrS]
theorem qrT{d:Dred}{l:List Share}{i:Nat}(h:i<l.length)(h1:l[i].vol≠0)(h2:qgD d l[i].soil<0):qjb d l=(0,0,false):=by
 unfold qjb;rw[if_pos]
 exact List.any_eq_true.2 ⟨_,List.getElem_mem h,by simp[h1,h2]⟩
theorem qv8{d:Dred}{l:List Share}(h:∀i (hi:i<l.length),l[i].vol≠0→0≤qgD d l[i].soil):qjb d l=(qhq d l,qtF d l+upI (qhq d l*d.hour) 60,true):=by
 unfold qjb;rw[if_neg]
 rw[Bool.not_eq_true]
 refine List.any_eq_false.2 fun x hx=>?_
 obtain⟨i,hi,rfl⟩:=List.mem_iff_getElem.1 hx
 have:=h i hi
 simp
 omega
theorem qzB{a b B:Int}(hb:0<b)(ha:0≤a)(h:a≤b*B):upI a b≤B:=by
 unfold upI
 have:(a+b-1)/b<B+1:=Int.ediv_lt_of_lt_mul hb (by
  have e:(B+1)*b=b*B+b:=by rw[Int.add_mul,Int.one_mul,Int.mul_comm]
  omega)
 omega
theorem qmg{d:Dred}(hd:OkDred d){l:List Share}(hv:VB l 4800000000000000)(i:Nat)(hi:i≤l.length)(hm:∀j (hj:j<i) (hj':j<l.length),l[j].vol≠0→0≤qgD d l[j].soil):
  (0≤qhq d (l.take i)∧qhq d (l.take i)≤288000000000*(i:Int))∧(0≤qtF d (l.take i)∧qtF d (l.take i)≤4800000000000*(i:Int)):=by
 induction i with
 |zero=>simp[qhq,qtF]
 |succ i ih=>
  have ih:=ih (by omega) fun j hj=>hm j (by omega)
  have hL:i<l.length:=by omega
  rw[qf8 hL,qf9 hL]
  have hvi:=hv i hL
  split
  ·omega
  ·rename_i h0
   obtain⟨hk,e⟩:=qe1 (hm i (by omega) hL h0)
   have ho:=hd.o _ hk
   rw[←e]at ho
   have m1:=qkV (a:=60*l[i].vol) (b:=1000000*(qcy d l[i].soil).rate) (by omega) (by omega)
   have m2:upI (60*l[i].vol) (1000000*(qcy d l[i].soil).rate)≤288000000000:=qzB (by omega) (by omega) (by omega)
   have w1:0≤l[i].vol*(qcy d l[i].soil).wear∧l[i].vol*(qcy d l[i].soil).wear≤4800000000000000*1000:=qbx (a:=l[i].vol) (b:=(qcy d l[i].soil).wear) (m:=4800000000000000) (n:=1000) (by omega) (by omega)
   have m3:=qkV (a:=l[i].vol*(qcy d l[i].soil).wear) (b:=1000000) (by omega) (by omega)
   have m4:upI (l[i].vol*(qcy d l[i].soil).wear) 1000000≤4800000000000:=qzB (by omega) (by omega) (by omega)
   omega
theorem qkZ{s:Site}(hg:qaI s.ground=0)(hs:OkGrid s.bed){b:Grid}(hb:OkBed s b)(h100:b.levels.length≤100){c:Cut}(hc:OkCut s c):VB (qbb s b c) 4800000000000000:=by
 have:=qh3 (okG hg) hb.ok (qeM hs hb hc).ok (qaZ _ _ _) b.levels.length (Nat.le_refl _)
 exact this.mono (by omega)
theorem qh6(s:Site)(b:Grid)(c:Cut):(qbb s b c).length=s.ground.soils.length:=qdw _ _ _ _
theorem qgw(s:Site)(ok:OkSite s)(hz:Sized s)(b:Grid)(hb:OkBed s b)(h100:b.levels.length≤100)(c:Cut)(hc:OkCut s c):Contract Tryz.prog 123 [.agg (encSite s),.agg (encGrid b),.agg (encCut c)]
  (.ret (.tup [.int .i64 (qjb (dredOf s c.dredger) (qbb s b c)).1,.int .i64 (qjb (dredOf s c.dredger) (qbb s b c)).2.1,.bool (qjb (dredOf s c.dredger) (qbb s b c)).2.2])):=by
 have h1:=qkO s (by have:=ok.dreds;omega) c.dredger
 rw[decide_eq_true hc.dr]at h1
 have h2:=qvY s ok.gr hz ok.bed b hb c hc
 have hd:=ok.dredOf hc
 have hv:=qkZ ok.gr ok.bed hb h100 hc
 have h8:(qbb s b c).length≤8:=by rw[qh6];exact qe0 (okG ok.gr)
 have hh:=hd.n.2.2.2.2.2
 have hl:=hd.l
 generalize dredOf s c.dredger=d at*
 generalize qbb s b c=l at*
 refine zT mix Tryz.func123 Tryz.ntmps123 Tryz.results123 rfl rfl rfl ?_;simp only[qac,Nat.reduceAdd]
 repeat'(first|refine zQ ?_|refine zF h1 ?_|refine zF h2 ?_|fail)
 refine qaf l.length (fun i=>⟨[(27,.int .i64 i),(26,.int .i64 l.length),(25,.sl (l.map qa5)),(9,.op 1 0 0),(6,.int .i64 (qhq d (l.take i))),(7,.int .i64 (qtF d (l.take i)))],[(1,⟨8,false,[encDred d]⟩)],64,69⟩) (fun i=>∀j (hj:j<i) (hj':j<l.length),l[j].vol≠0→0≤qgD d l[j].soil) (qaa (nx:=64) (k:=0) (ns:=[]) (ks:=[27,26,25,9,6,7]) [(416,1)] rfl (by simp) (by kernel_rfl)) (by omega) ?_
 intro i hi hC
 obtain⟨hm1,hm2⟩:=qmg hd hv i hi hC
 by_cases hL:i<l.length
 rotate_left
 ·obtain rfl:i=l.length:=by omega
  rw[qv8 fun j hj=>hC j hj hj]
  rw[List.take_length]at*
  have hp:0≤qhq d l*d.hour∧qhq d l*d.hour≤2304000000000*1000000:=qbx (a:=qhq d l) (b:=d.hour) (m:=2304000000000) (n:=1000000) (by omega) (by omega)
  have hu:=upc (qhq d l*d.hour) 60 (by omega) (by omega)
  have hub:=qkV (a:=qhq d l*d.hour) (b:=60) (by omega) (by omega)
  repeat'(first|refine zQ ?_|refine zF hu ?_|(refine zI ?_;intro hlt)|(refine zC ?_ ?_<;>first|intro h|simp)|refine zE ?_|fail)
  all_goals first
   |exact absurd (show l.length<l.length by omega) hL
   |rfl
   |trace_state
 have hvi:=hv i hL
 by_cases h0:l[i].vol=0
 ·have e1:=qf8 (d:=d) hL
  have e2:=qf9 (d:=d) hL
  rw[if_pos h0,Int.add_zero]at e1 e2
  repeat'(first|refine zQ ?_|(refine zI ?_;intro hlt)|(refine zC ?_ ?_<;>first|intro h|simp)|fail)
  all_goals first
   |exact absurd hL (by omega)
   |exact absurd (by assumption) h0
   |exact absurd h0 (by assumption)
   |(refine⟨hL,fun j hj hj' hne=>?_,?_⟩
     ·rcases Nat.lt_succ_iff_lt_or_eq.1 hj with h'|rfl
      ·exact hC j h' hj' hne
      ·exact absurd h0 hne
     ·rw[e1,e2]
      exact qaa (nx:=64) (k:=0) (ns:=[]) (ks:=[27,26,25,9,6,7]) [(1,1)] rfl (by simp) (by kernel_rfl))
   |trace_state
 have h3:=qrI d (by omega) l[i].soil
 by_cases ho:0≤qgD d l[i].soil
 rotate_left
 ·rw[qrT hL h0 (by omega)]
  rw[decide_eq_false ho]at h3
  repeat'(first|refine zQ ?_|refine zF h3 ?_|(refine zI ?_;intro hlt)|(refine zC ?_ ?_<;>first|intro h|simp)|refine zE ?_|fail)
  all_goals first
   |exact absurd hL (by omega)
   |exact absurd (by assumption) h0
   |rfl
   |trace_state
 rw[decide_eq_true ho]at h3
 obtain⟨hk,e⟩:=qe1 ho
 have hoo:=hd.o _ hk
 rw[←e]at hoo
 have e1:=qf8 (d:=d) hL
 have e2:=qf9 (d:=d) hL
 rw[if_neg h0]at e1 e2
 have w1:0≤l[i].vol*(qcy d l[i].soil).wear∧l[i].vol*(qcy d l[i].soil).wear≤4800000000000000*1000:=qbx (a:=l[i].vol) (b:=(qcy d l[i].soil).wear) (m:=4800000000000000) (n:=1000) (by omega) (by omega)
 have u1:=upc (60*l[i].vol) (1000000*(qcy d l[i].soil).rate) (by omega) (by omega)
 have u2:=upc (l[i].vol*(qcy d l[i].soil).wear) 1000000 (by omega) (by omega)
 obtain⟨hm3,hm4⟩:=qmg hd hv (i+1) (by omega) (fun j hj hj' hne=>by
  rcases Nat.lt_succ_iff_lt_or_eq.1 hj with h'|rfl
  ·exact hC j h' hj' hne
  ·exact ho)
 rw[e1]at hm3
 rw[e2]at hm4
 repeat'(first|refine zQ ?_|refine zF h3 ?_|refine zF u1 ?_|refine zF u2 ?_|(refine zI ?_;intro hlt)|(refine zC ?_ ?_<;>first|intro h|simp)|fail)
 all_goals first
  |exact absurd hL (by omega)
  |exact absurd (by assumption) h0
  |(refine⟨hL,fun j hj hj' hne=>?_,?_⟩
    ·rcases Nat.lt_succ_iff_lt_or_eq.1 hj with h'|rfl
     ·exact hC j h' hj' hne
     ·exact ho
    ·rw[e1,e2]
     exact qaa (nx:=64) (k:=0) (ns:=[]) (ks:=[27,26,25,9,6,7]) [(1,1)] rfl (by simp) (by kernel_rfl))
  |trace_state
end Go.Pv.Soil

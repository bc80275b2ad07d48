import Derived.Test.YtfklpkgdobdbpaaGreatCBF
/- Part of the proofs over YtfklpkgdobdbpaaGreat: S29, S35, N13, N16. -/
set_option linter.unusedVariables false
set_option linter.unusedSimpArgs false
set_option linter.unnecessarySimpa false
open Go Go.Proofs Go.Pv
set_option maxHeartbeats 8000000
set_option maxRecDepth 100000
set_option linter.unusedSimpArgs false
set_option linter.unusedVariables false
namespace Go.Pv.Soil
theorem qKp(g:Ground)(hg:OkG g)(hs:g.soils.length<1000000000000)(n:Nat)(hn:n<g.borings.length):Contract Tryz.prog 260 [.agg (qam g),.int .i64 n] (.ret (.int .i64 (qvC g n))):=by
 have hb:=hg.bor _ hn
 have hll:=hb.len
 have hq:=hg.n
 have e:qvC g n=qrh g g.borings[n] g.borings[n].layers.length:=by simp only[qvC,List.getElem?_eq_getElem hn]
 rw[e]
 refine zT mix Tryz.func260 Tryz.ntmps260 Tryz.results260 rfl rfl rfl ?_;simp only[qab,Nat.reduceAdd]
 repeat'(first|refine zQ ?_|(refine zI ?_;intro hlt)|fail)
 refine qad (g.borings[n].layers.length) (fun i=>⟨[(16,.int .i64 i),(15,.int .i64 g.borings[n].layers.length),(14,.sl (g.borings[n].layers.map qeZ)),(5,.int .i64 (qrh g g.borings[n] i)),(2,.op 0 0 0)],[(0,⟨2,true,[qam g]⟩)],64,36⟩) (fun i=>True) (qaa (k:=0) (ns:=[]) (ks:=[16,15,14,5,2]) [(0,0)] rfl (by simp) rfl) trivial ?_
 intro i hi hC
 by_cases hlt:i<g.borings[n].layers.length
 ·obtain⟨h1,h2,h3⟩:=qlA hb hlt
  repeat'(first|((with_reducible apply qaj);rfl;(exact qHS g.soils hs _);rfl)|((with_reducible apply(qdR 14));decide +kernel;rfl)|refine zS ?_|refine zA ?_|(refine zI ?_;intro hlt)|(refine zC ?_ ?_<;>first|intro h|simp)|refine zE ?_|fail)
  all_goals try exact absurd hlt (by omega)
  refine⟨by omega,trivial,?_⟩
  have e':qrh g g.borings[n] (i+1)=max (qrh g g.borings[n] i) (g.soils[(qbj g.soils g.borings[n].layers[i].soil).toNat]).a:=by
   rw[←h3];rfl
  rw[e']
  exact qaa (k:=0) (ns:=[]) (ks:=[16,15,14,5,2]) [(0,0)] rfl (by simp) rfl
 ·have e:i=g.borings[n].layers.length:=by omega
  subst e
  repeat'(first|((with_reducible apply(qdR 14));decide +kernel;rfl)|(with_reducible rfl)|refine zS ?_|refine zA ?_|(refine zI ?_;intro hlt)|(refine zC ?_ ?_<;>first|intro h|simp)|refine zE ?_|fail)
  all_goals first|exact absurd ‹_› (by omega)|trace_state
def qkl(g:Ground)(m:Grid):Nat→St
 |0=>⟨[(12,.int .i64 0),(11,.int .i64 m.levels.length),(5,.op 3 0 0),(4,.op 2 0 0),(3,.op 1 0 0),(2,.op 0 0 0)],
   [(0,⟨2,true,[qam g]⟩),(1,⟨6,true,[qag m]⟩),(2,⟨7,false,[[.int .i64 0,.int .i64 0,.int .i64 0,.int .i64 0,.int .i64 0,.nilsl,.nilsl]]⟩),(3,⟨7,false,[qag m++[.nilsl]]⟩)],32,29⟩
 |i+1=>⟨[(12,.int .i64 ((i+1:Nat):Int)),(11,.int .i64 m.levels.length),(5,.op 3 0 0),(4,.op 2 0 0),(3,.op 1 0 0),(2,.op 0 0 0)],
   [(0,⟨2,true,[qam g]⟩),(1,⟨6,true,[qag m]⟩),(2,⟨7,false,[[.int .i64 0,.int .i64 0,.int .i64 0,.int .i64 0,.int .i64 0,.nilsl,.nilsl]]⟩),(3,⟨7,false,[qag m++[.os 4 0 (i+1)]]⟩),(4,⟨1,true,((List.range (i+1)).map (qdq g m)).map qal⟩)],32,29⟩
theorem c94(g:Ground)(hg:OkG g)(hs:g.soils.length<1000000000000)(m:Grid)(hm:OkGrid m)(h0:qa2 m=0):Contract Tryz.prog 213 [.agg (qam g),.agg (qag m)] (.ret (.agg (qag m++[.fr 1 ((qog g m).map qal)]))):=by
 have hsm:=hm.small
 have hbl:g.borings.length<1000000000000:=by have:=hg.n;omega
 have hlen:=hm.len
 have hcr:=qlp hm.bds.2.2.1 hm.bds.2.2.2
 refine zT mix Tryz.func213 Tryz.ntmps213 Tryz.results213 rfl rfl rfl ?_;simp only[qab,Nat.reduceAdd]
 repeat'(first|refine zQ ?_|fail)
 refine qad m.levels.length (qkl g m) (fun _=>True) (qaa (nx:=32) (k:=1) (ns:=[]) (ks:=[12,11,5,4,3,2]) [(0,0),(32,1),(64,2),(160,3)] rfl (by simp) (by kernel_rfl)) trivial ?_
 intro i hi _
 match i with
 |0=>
  have hi':0<m.levels.length:=by omega
  have hc:=qdr hm hi'
  simp only[qkl]
  repeat'(first|((with_reducible (show qap _ (.call _) _ _ _ _));first|((with_reducible apply qbF);rfl;(exact qG1 m hm 0 hi' h0);rfl;(exact zL rfl);rfl)|((with_reducible apply qaj);rfl;(exact c98 g hbl _);rfl)|((with_reducible apply qaj);rfl;(exact qKp g hg hs _ (qe9 hg.n.1));rfl))|refine zQ ?_|(refine zC ?_ ?_<;>first|intro h|simp)|fail)
  ·refine qcd (qfn (f:=qal) qbL rfl rfl rfl rfl (by kernel_rfl) (by kernel_rfl)) rfl ?_
   repeat'(first|refine zQ ?_|fail)
   exact⟨hi',trivial,qaa (nx:=32) (k:=1) (ns:=[]) (ks:=[12,11,5,4,3,2]) [(0,0),(1,1),(2,2),(3,3),(448,4)] rfl (by simp) (by kernel_rfl)⟩
  ·exact absurd hi' (by omega)
 |i+1=>
  by_cases hlt:i+1<m.levels.length
  ·have hc:=qdr hm hlt
   simp only[qkl]
   repeat'(first|((with_reducible (show qap _ (.call _) _ _ _ _));first|((with_reducible apply qbF);rfl;(exact qG1 m hm (i+1) hlt h0);rfl;(exact zL rfl);rfl)|((with_reducible apply qaj);rfl;(exact c98 g hbl _);rfl)|((with_reducible apply qaj);rfl;(exact qKp g hg hs _ (qe9 hg.n.1));rfl))|refine zQ ?_|(refine zC ?_ ?_<;>first|intro h|simp)|fail)
   ·refine qaH (f:=qal) (l:=(List.range (i+1)).map (qdq g m)) qbL rfl rfl rfl (by simp) rfl rfl (by kernel_rfl) (by kernel_rfl) (by omega) rfl ?_
    repeat'(first|refine zQ ?_|fail)
    have e:(List.range (i+1)).map (qdq g m)++[qvC g (qbq g (qar m (i+1)))]=(List.range (i+1+1)).map (qdq g m):=by
     rw[List.range_succ (n:=i+1),List.map_append];rfl
    rw[e]
    exact⟨hlt,trivial,qaa (nx:=32) (k:=1) (ns:=[]) (ks:=[12,11,5,4,3,2]) [(0,0),(1,1),(2,2),(3,3),(4,4)] rfl (by simp) (by kernel_rfl)⟩
   ·exact absurd hlt (by omega)
  ·simp only[qkl]
   repeat'(first|refine zQ ?_|(refine zC ?_ ?_<;>first|intro h|simp)|fail)
   ·exact absurd hlt (by omega)
   ·have e:i+1=m.levels.length:=by omega
    have er:qog g m=(List.range (i+1)).map (qdq g m):=by rw[qog,←e]
    rw[er]
    exact qbs (qq0 (cs:=qag m) (len:=i+1) rfl rfl (by simp) rfl)
theorem qrq{b:Grid}(h:qa2 b=0){l:List Int}(hl:l.length=b.levels.length)(hv:l.any qhC=false):qa2 ⟨b.x,b.y,b.side,b.cols,b.rows,l⟩=0:=by
 unfold qa2 at h ⊢
 simp only[hl,hv]
 split at h
 ·omega
 ·rename_i h1
  rw[if_neg h1]
  split at h
  ·omega
  ·rename_i h2
   rw[if_neg h2]
   split at h
   ·omega
   ·rename_i h3
    rw[if_neg h3]
    split at h
    ·omega
    ·rename_i h4
     rw[if_neg h4]
     simp
theorem qeH{s:Site}(hs:OkGrid s.bed){b:Grid}(hb:OkBed s b){c:Cut}(hc:OkCut s c):OkBed s (qcu s b c):=by
 have hv:(qfq b.levels (qaD s c) c.level).any qhC=false:=by
  refine List.any_eq_false.2 fun x hx=>?_
  obtain⟨i,hi,rfl⟩:=List.mem_iff_getElem.1 hx
  rw[qaM]at hi
  rw[←qbv (by rw[qaM];exact hi),qcM hi]
  have h1:=hb.ok.lvl i hi
  rw[←qbv hi]at h1
  have h2:=hc.lvl
  rw[Bool.not_eq_true]
  split
  ·rename_i hk
   have h3:=h1.resolve_left hk.2
   have h3:=of_decide_eq_true h3
   unfold qhC
   rw[show qhQ (min (lv b.levels i) c.level)=true from decide_eq_true (by omega)]
   simp
  ·unfold qhC
   rcases h1 with h1|h1
   ·rw[h1];rfl
   ·rw[h1];simp
 have h0:qa2 (qcu s b c)=0:=qrq hb.er (qaM _ _ _) hv
 exact⟨qf4 h0,h0,hb.al⟩
theorem qC7{l:List Int}{foot:List Nat}{v:Int}{j:Nat}(hf:foot.Nodup)(hj:j<foot.length)(hi:foot[j]<l.length)(hk:lv l foot[j]≠30000):qfq l (foot.take (j+1)) v=(qfq l (foot.take j) v).set foot[j] (min (lv l foot[j]) v):=by
 refine qnd (by simp[qaM]) fun i hi2=>?_
 rw[qaM]at hi2
 rw[qcM hi2,qlz (by rw[qaM];exact hi),qcM hi2,List.take_succ_eq_append_getElem hj]
 by_cases e:foot[j]=i
 ·subst e
  rw[if_pos ⟨List.mem_append_right _ List.mem_cons_self,hk⟩,if_pos rfl]
 ·rw[if_neg e]
  have:i∈foot.take j++[foot[j]]↔i∈foot.take j:=by rw[List.mem_append,List.mem_singleton];exact⟨fun h=>h.resolve_right fun h=>e h.symm,.inl⟩
  simp only[this]
theorem qgx(s:Site)(hs:OkGrid s.bed)(b:Grid)(hb:OkBed s b)(c:Cut)(hc:OkCut s c):Contract Tryz.prog 50 [.agg (encSite s),.agg (qag b),.agg (encCut c)] (.ret (.agg (qag (qcu s b c)))):=by
 obtain⟨ha,hlt,hpos,hle⟩:=qbm hs hc
 have hlen:=hb.len hs
 have hbd:=hb.ok.bds
 have hsm:=hb.ok.small
 have hnd:=qpO ha
 have h1:=c91 b (by omega)
 have h2:=qdL s hs c hc
 have hlt':∀j (hj:j<(qaD s c).length),(qaD s c)[j]<b.levels.length:=fun j hj=>by rw[hlen];exact hlt _ (List.getElem_mem hj)
 have hF:qfm qal 1:=fun _=>⟨rfl,rfl⟩
 show Contract _ _ _ (.ret (.agg (qag ⟨b.x,b.y,b.side,b.cols,b.rows,qfq b.levels (qaD s c) c.level⟩)))
 generalize qaD s c=ft at*
 refine zT mix Tryz.func50 Tryz.ntmps50 Tryz.results50 rfl rfl rfl ?_;simp only[qab,Nat.reduceAdd]
 repeat'(first|((with_reducible apply(qic (cs:=qu6 b)));rfl;(exact h1);(exact hF);rfl;rfl;rfl;rfl;rfl)|refine zQ ?_|refine zF h2 ?_|fail)
 refine qad ft.length (fun j=>⟨[(9,.int .i64 j),(8,.sl (ft.map qcx)),(7,.op 1 0 0),(6,.op 5 0 0),(5,.op 2 0 0),(4,.op 4 0 0)],
  [(4,⟨6,true,[qag b]⟩),(1,⟨6,false,[qu6 b++[.os 3 0 b.levels.length]]⟩),(2,⟨8,true,[encCut c]⟩),(3,⟨1,true,(qfq b.levels (ft.take j) c.level).map qal⟩),(5,⟨6,false,[[.int .i64 0,.int .i64 0,.int .i64 0,.int .i64 0,.int .i64 0,.nilsl]]⟩)],192,46⟩) (fun j=>True) ?_ trivial ?_
 ·rw[show qfq b.levels (ft.take 0) c.level=b.levels from qxD]
  exact qaa (nx:=192) (k:=1) (ns:=[]) (ks:=[9,8,7,6,5,4]) [(32,4),(192,1),(64,2),(165,3),(96,5)] rfl (by simp) (by kernel_rfl)
 intro j hj _
 have hll:=qaM b.levels (ft.take j) c.level
 by_cases hL:j<ft.length
 ·have hjb:=hlt' j hL
  have hat:=qBy (v:=c.level) hnd hL hjb
  have hgl:(qfq b.levels (ft.take j) c.level)[ft[j]]'(by omega)=lv b.levels ft[j]:=by rw[←qbv (by omega),hat]
  have h3:=qC5 b (ft[j]:Nat) (by omega) (by omega)
  try simp only[Int.toNat_natCast]at h3
  by_cases hk:lv b.levels ft[j]=30000
  ·rw[decide_eq_true hk]at h3
   repeat'(first|refine zQ ?_|refine zF h3 ?_|(refine zI ?_;intro hlt)|(refine zC ?_ ?_<;>first|intro h|simp)|fail)
   all_goals first
    |exact absurd hL (by omega)
    |(refine⟨hL,trivial,?_⟩
      rw[qxE hL (.inl hk)]
      exact qaa (nx:=192) (k:=1) (ns:=[]) (ks:=[9,8,7,6,5,4]) [(4,4),(1,1),(2,2),(3,3),(5,5)] rfl (by simp) (by kernel_rfl))
    |trace_state
  ·rw[decide_eq_false hk]at h3
   repeat'(first|refine zQ ?_|refine zF h3 ?_|(refine zI ?_;intro hlt)|(refine zC ?_ ?_<;>first|intro h|simp)|fail)
   all_goals try exact absurd hL (by omega)
   refine qaF (f:=qal) (l:=qfq b.levels (ft.take j) c.level) (i:=ft[j]) (a:=min ((qfq b.levels (ft.take j) c.level)[ft[j]]'(by omega)) c.level) rfl rfl rfl (by omega) rfl rfl rfl rfl (zL rfl) rfl ?_
   repeat'(first|refine zQ ?_|fail)
   refine⟨hL,trivial,?_⟩
   rw[qC7 hnd hL hjb hk,hgl]
   exact qaa (nx:=192) (k:=1) (ns:=[]) (ks:=[9,8,7,6,5,4]) [(4,4),(1,1),(2,2),(3,3),(5,5)] rfl (by simp) (by kernel_rfl)
 ·obtain rfl:j=ft.length:=by omega
  repeat'(first|refine zQ ?_|(refine zI ?_;intro hlt)|(refine zC ?_ ?_<;>first|intro h|simp)|fail)
  all_goals try exact absurd (show ft.length<ft.length by omega) hL
  rw[List.take_length]at*
  exact qif rfl (qBi (f:=qal) (k:=1) (m:=56) rfl (by rw[hll])) rfl
theorem qpU:qjg qbJ 2:=fun _=>⟨rfl,rfl,rfl⟩
def qbk(s:Site)(b:Grid)(c:Cut):List Share:=qaN s.ground b (qcu s b c) b.levels.length
theorem qxO{s:Site}{b:Grid}{c:Cut}:qbR b (qcu s b c)=true:=decide_eq_true ⟨rfl,rfl,rfl,rfl,rfl⟩
theorem qrr{s:Site}(hg:qaB s.ground=0)(hs:OkGrid s.bed){b:Grid}(hb:OkBed s b){c:Cut}(hc:OkCut s c):qbg s.ground [b,qcu s b c]=0:=by
 unfold qbg
 rw[if_neg (not_not_intro hg),if_neg]
 ·show(if qbR b (qcu s b c)=true then(0:Int)else 10)=0
  rw[if_pos qxO]
 ·simp only[List.map_cons,List.map_nil,qc8,hb.er,(qeH hs hb hc).er]
  simp
theorem qC8(s:Site)(hg:qaB s.ground=0)(hz:Sized s)(hs:OkGrid s.bed)(b:Grid)(hb:OkBed s b)(c:Cut)(hc:OkCut s c):Contract Tryz.prog 120 [.agg (encSite s),.agg (qag b),.agg (encCut c)] (.ret (.sl ((qbk s b c).map qbJ))):=by
 have h1:=qiw s hs b hb c hc
 have hsm:=hb.ok.small
 have hsm2:=(qeH hs hb hc).ok.small
 have h2:=qsu qpU (qE8 s.ground hz.so hz.bo b (qcu s b c) (by omega) (by omega) (qrr hg hs hb hc))
 refine zT mix Tryz.func120 Tryz.ntmps120 Tryz.results120 rfl rfl rfl ?_;simp only[qab,Nat.reduceAdd]
 repeat'(first|refine zQ ?_|refine zF h1 ?_|refine zF h2 ?_|fail)
 exact qif rfl rfl rfl
theorem qC9(s:Site)(hg:qaB s.ground=0)(hz:Sized s)(hs:OkGrid s.bed)(b:Grid)(hb:OkBed s b)(c:Cut)(hc:OkCut s c):Contract Tryz.prog 52 [.agg (encSite s),.agg (qag b),.agg (encCut c)] (.ret (.sl ((qbk s b c).map qbJ))):=by
 have h1:=qgx s hs b hb c hc
 have hlb:=qeH hs hb hc
 have hlen:(qcu s b c).levels.length=b.levels.length:=qaM _ _ _
 have h2:=qq8 qpU (c55 s.ground (okG hg) hz.so b hb.ok (qcu s b c) hlb.ok hlen)
 refine zT mix Tryz.func52 Tryz.ntmps52 Tryz.results52 rfl rfl rfl ?_;simp only[qab,Nat.reduceAdd]
 repeat'(first|refine zQ ?_|refine zF h1 ?_|refine zF h2 ?_|fail)
 exact qif rfl rfl rfl
def qhR(d:Dred)(l:List Share):Int:=(l.map fun x=>if x.vol=0 then 0 else upI (60*x.vol) (1000000*(qcO d x.soil).rate)).sum
def qvE(d:Dred)(l:List Share):Int:=(l.map fun x=>if x.vol=0 then 0 else upI (x.vol*(qcO d x.soil).wear) 1000000).sum
def qva(d:Dred)(l:List Share):Bool:=l.any fun x=>decide (x.vol≠0)&&decide (qg5 d x.soil<0)
def qiS(d:Dred)(l:List Share):Int×Int×Bool:=if qva d l=true then(0,0,false)else(qhR d l,qvE d l+upI (qhR d l*d.hour) 60,true)
theorem qtm(l:List Int)(a:Int):(l++[a]).sum=l.sum+a:=by simp
theorem qgz{d:Dred}{l:List Share}{i:Nat}(h:i<l.length):qhR d (l.take (i+1))=qhR d (l.take i)+(if l[i].vol=0 then 0 else upI (60*l[i].vol) (1000000*(qcO d l[i].soil).rate)):=by
 unfold qhR;rw[List.take_succ_eq_append_getElem h,List.map_append,List.map_singleton,qtm]
theorem qgA{d:Dred}{l:List Share}{i:Nat}(h:i<l.length):qvE d (l.take (i+1))=qvE d (l.take i)+(if l[i].vol=0 then 0 else upI (l[i].vol*(qcO d l[i].soil).wear) 1000000):=by
 unfold qvE;rw[List.take_succ_eq_append_getElem h,List.map_append,List.map_singleton,qtm]
theorem qtn{d:Dred}{l:List Share}{i:Nat}(h:i<l.length)(h1:l[i].vol≠0)(h2:qg5 d l[i].soil<0):qiS d l=(0,0,false):=by
 unfold qiS;rw[if_pos]
 exact List.any_eq_true.2 ⟨_,List.getElem_mem h,by simp[h1,h2]⟩
theorem qxZ{d:Dred}{l:List Share}(h:∀i (hi:i<l.length),l[i].vol≠0→0≤qg5 d l[i].soil):qiS d l=(qhR d l,qvE d l+upI (qhR d l*d.hour) 60,true):=by
 unfold qiS;rw[if_neg]
 rw[Bool.not_eq_true]
 refine List.any_eq_false.2 fun x hx=>?_
 obtain⟨i,hi,rfl⟩:=List.mem_iff_getElem.1 hx
 have:=h i hi
 simp
 omega
theorem qBG{a b B:Int}(hb:0<b)(ha:0≤a)(h:a≤b*B):upI a b≤B:=by
 unfold upI
 have:(a+b-1)/b<B+1:=Int.ediv_lt_of_lt_mul hb (by
  have e:(B+1)*b=b*B+b:=by rw[Int.add_mul,Int.one_mul,Int.mul_comm]
  omega)
 omega
theorem qnk{d:Dred}(hd:OkDred d){l:List Share}(hv:VB l 4800000000000000)(i:Nat)(hi:i≤l.length)(hm:∀j (hj:j<i) (hj':j<l.length),l[j].vol≠0→0≤qg5 d l[j].soil):
  (0≤qhR d (l.take i)∧qhR d (l.take i)≤288000000000*(i:Int))∧(0≤qvE d (l.take i)∧qvE d (l.take i)≤4800000000000*(i:Int)):=by
 induction i with
 |zero=>simp[qhR,qvE]
 |succ i ih=>
  have ih:=ih (by omega) fun j hj=>hm j (by omega)
  have hL:i<l.length:=by omega
  rw[qgz hL,qgA hL]
  have hvi:=hv i hL
  split
  ·omega
  ·rename_i h0
   obtain⟨hk,e⟩:=qft (hm i (by omega) hL h0)
   have ho:=hd.o _ hk
   rw[←e]at ho
   have m1:=qlG (a:=60*l[i].vol) (b:=1000000*(qcO d l[i].soil).rate) (by omega) (by omega)
   have m2:upI (60*l[i].vol) (1000000*(qcO d l[i].soil).rate)≤288000000000:=qBG (by omega) (by omega) (by omega)
   have w1:0≤l[i].vol*(qcO d l[i].soil).wear∧l[i].vol*(qcO d l[i].soil).wear≤4800000000000000*1000:=qbN (a:=l[i].vol) (b:=(qcO d l[i].soil).wear) (m:=4800000000000000) (n:=1000) (by omega) (by omega)
   have m3:=qlG (a:=l[i].vol*(qcO d l[i].soil).wear) (b:=1000000) (by omega) (by omega)
   have m4:upI (l[i].vol*(qcO d l[i].soil).wear) 1000000≤4800000000000:=qBG (by omega) (by omega) (by omega)
   omega
theorem qlL{s:Site}(hg:qaB s.ground=0)(hs:OkGrid s.bed){b:Grid}(hb:OkBed s b)(h100:b.levels.length≤100){c:Cut}(hc:OkCut s c):VB (qbk s b c) 4800000000000000:=by
 have:=qiv (okG hg) hb.ok (qeH hs hb hc).ok (qaM _ _ _) b.levels.length (Nat.le_refl _)
 exact this.mono (by omega)
theorem qkn(s:Site)(b:Grid)(c:Cut):(qbk s b c).length=s.ground.soils.length:=qdM _ _ _ _
theorem qiz(s:Site)(ok:OkSite s)(hz:Sized s)(b:Grid)(hb:OkBed s b)(h100:b.levels.length≤100)(c:Cut)(hc:OkCut s c):Contract Tryz.prog 123 [.agg (encSite s),.agg (qag b),.agg (encCut c)]
  (.ret (.tup [.int .i64 (qiS (dredOf s c.dredger) (qbk s b c)).1,.int .i64 (qiS (dredOf s c.dredger) (qbk s b c)).2.1,.bool (qiS (dredOf s c.dredger) (qbk s b c)).2.2])):=by
 have h1:=qly s (by have:=ok.dreds;omega) c.dredger
 rw[decide_eq_true hc.dr]at h1
 have h2:=qC8 s ok.gr hz ok.bed b hb c hc
 have hd:=ok.dredOf hc
 have hv:=qlL ok.gr ok.bed hb h100 hc
 have h8:(qbk s b c).length≤8:=by rw[qkn];exact qfs (okG ok.gr)
 have hh:=hd.n.2.2.2.2.2
 have hl:=hd.l
 generalize dredOf s c.dredger=d at*
 generalize qbk s b c=l at*
 refine zT mix Tryz.func123 Tryz.ntmps123 Tryz.results123 rfl rfl rfl ?_;simp only[qab,Nat.reduceAdd]
 repeat'(first|refine zQ ?_|refine zF h1 ?_|refine zF h2 ?_|fail)
 refine qad l.length (fun i=>⟨[(27,.int .i64 i),(26,.int .i64 l.length),(25,.sl (l.map qbJ)),(9,.op 1 0 0),(6,.int .i64 (qhR d (l.take i))),(7,.int .i64 (qvE d (l.take i)))],[(1,⟨8,false,[qa4 d]⟩)],64,69⟩) (fun i=>∀j (hj:j<i) (hj':j<l.length),l[j].vol≠0→0≤qg5 d l[j].soil) (qaa (nx:=64) (k:=0) (ns:=[]) (ks:=[27,26,25,9,6,7]) [(416,1)] rfl (by simp) (by kernel_rfl)) (by omega) ?_
 intro i hi hC
 obtain⟨hm1,hm2⟩:=qnk hd hv i hi hC
 by_cases hL:i<l.length
 rotate_left
 ·obtain rfl:i=l.length:=by omega
  rw[qxZ fun j hj=>hC j hj hj]
  rw[List.take_length]at*
  have hp:0≤qhR d l*d.hour∧qhR d l*d.hour≤2304000000000*1000000:=qbN (a:=qhR d l) (b:=d.hour) (m:=2304000000000) (n:=1000000) (by omega) (by omega)
  have hu:=upc (qhR d l*d.hour) 60 (by omega) (by omega)
  have hub:=qlG (a:=qhR d l*d.hour) (b:=60) (by omega) (by omega)
  repeat'(first|refine zQ ?_|refine zF hu ?_|(refine zI ?_;intro hlt)|(refine zC ?_ ?_<;>first|intro h|simp)|refine zE ?_|fail)
  all_goals first
   |exact absurd (show l.length<l.length by omega) hL
   |rfl
   |trace_state
 have hvi:=hv i hL
 by_cases h0:l[i].vol=0
 ·have e1:=qgz (d:=d) hL
  have e2:=qgA (d:=d) hL
  rw[if_pos h0,Int.add_zero]at e1 e2
  repeat'(first|refine zQ ?_|(refine zI ?_;intro hlt)|(refine zC ?_ ?_<;>first|intro h|simp)|fail)
  all_goals first
   |exact absurd hL (by omega)
   |exact absurd (by assumption) h0
   |exact absurd h0 (by assumption)
   |(refine⟨hL,fun j hj hj' hne=>?_,?_⟩
     ·rcases Nat.lt_succ_iff_lt_or_eq.1 hj with h'|rfl
      ·exact hC j h' hj' hne
      ·exact absurd h0 hne
     ·rw[e1,e2]
      exact qaa (nx:=64) (k:=0) (ns:=[]) (ks:=[27,26,25,9,6,7]) [(1,1)] rfl (by simp) (by kernel_rfl))
   |trace_state
 have h3:=qta d (by omega) l[i].soil
 by_cases ho:0≤qg5 d l[i].soil
 rotate_left
 ·rw[qtn hL h0 (by omega)]
  rw[decide_eq_false ho]at h3
  repeat'(first|refine zQ ?_|refine zF h3 ?_|(refine zI ?_;intro hlt)|(refine zC ?_ ?_<;>first|intro h|simp)|refine zE ?_|fail)
  all_goals first
   |exact absurd hL (by omega)
   |exact absurd (by assumption) h0
   |rfl
   |trace_state
 rw[decide_eq_true ho]at h3
 obtain⟨hk,e⟩:=qft ho
 have hoo:=hd.o _ hk
 rw[←e]at hoo
 have e1:=qgz (d:=d) hL
 have e2:=qgA (d:=d) hL
 rw[if_neg h0]at e1 e2
 have w1:0≤l[i].vol*(qcO d l[i].soil).wear∧l[i].vol*(qcO d l[i].soil).wear≤4800000000000000*1000:=qbN (a:=l[i].vol) (b:=(qcO d l[i].soil).wear) (m:=4800000000000000) (n:=1000) (by omega) (by omega)
 have u1:=upc (60*l[i].vol) (1000000*(qcO d l[i].soil).rate) (by omega) (by omega)
 have u2:=upc (l[i].vol*(qcO d l[i].soil).wear) 1000000 (by omega) (by omega)
 obtain⟨hm3,hm4⟩:=qnk hd hv (i+1) (by omega) (fun j hj hj' hne=>by
  rcases Nat.lt_succ_iff_lt_or_eq.1 hj with h'|rfl
  ·exact hC j h' hj' hne
  ·exact ho)
 rw[e1]at hm3
 rw[e2]at hm4
 repeat'(first|refine zQ ?_|refine zF h3 ?_|refine zF u1 ?_|refine zF u2 ?_|(refine zI ?_;intro hlt)|(refine zC ?_ ?_<;>first|intro h|simp)|fail)
 all_goals first
  |exact absurd hL (by omega)
  |exact absurd (by assumption) h0
  |(refine⟨hL,fun j hj hj' hne=>?_,?_⟩
    ·rcases Nat.lt_succ_iff_lt_or_eq.1 hj with h'|rfl
     ·exact hC j h' hj' hne
     ·exact ho
    ·rw[e1,e2]
     exact qaa (nx:=64) (k:=0) (ns:=[]) (ks:=[27,26,25,9,6,7]) [(1,1)] rfl (by simp) (by kernel_rfl))
  |trace_state
end Go.Pv.Soil

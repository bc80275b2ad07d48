import Derived.Test.YtfklpkgdobdbpaaGreatCAF
/- Part of the proofs over YtfklpkgdobdbpaaGreat: S6, S8, S9. -/
set_option linter.unusedVariables false
set_option linter.unusedSimpArgs false
set_option linter.unnecessarySimpa false
open Go Go.Proofs Go.Pv
set_option maxHeartbeats 8000000
set_option maxRecDepth 100000
set_option linter.unusedSimpArgs false
set_option linter.unusedVariables false
namespace Go.Pv.Soil
structure Ground where
 soils:List Soil
 borings:List Boring
def qam(g:Ground):List D:=[.sl (g.soils.map qaG),.sl (g.borings.map qbG)]
def qpz(l:List Soil)(ls:List Layer)(i:Nat):Int:=
 match ls[i]? with
 |none=>0
 |some x=>if qhQ x.top=false then 2 else if 0<i∧((ls[i-1]?).map (·.top)).getD 0≤x.top then 9 else if qbj l x.soil<0 then 6 else 0
def qn9(l:List Soil)(b:Boring):Int:=
 if ptOK ⟨b.x,b.y⟩=false then 2 else if b.layers.length=0 then 10 else if 12<b.layers.length then 8 else qcK b.layers.length (qpz l b.layers)
theorem qlm{l:List Soil}{ls:List Layer}{i:Nat}(hi:i<ls.length):qpz l ls i=if qhQ ls[i].top=false then 2 else if 0<i∧((ls[i-1]?).map (·.top)).getD 0≤ls[i].top then 9 else if qbj l ls[i].soil<0 then 6 else 0:=by
 simp only[qpz,List.getElem?_eq_getElem hi]
theorem qBk{l:List Soil}{ls:List Layer}{i:Nat}(hi:i<ls.length)(h:qhQ ls[i].top=false):qpz l ls i=2:=by rw[qlm hi,if_pos h]
theorem qBl{l:List Soil}{ls:List Layer}{i:Nat}(hi:i<ls.length)(h1:qhQ ls[i].top=true)(h2:0<i)(h3:(ls[i-1]'(by omega)).top≤ls[i].top):qpz l ls i=9:=by
 rw[qlm hi,if_neg (by simp[h1]),if_pos ⟨h2,by rw[List.getElem?_eq_getElem (by omega)];exact h3⟩]
theorem qsB{l:List Soil}{ls:List Layer}{i:Nat}(hi:i<ls.length)(h1:qhQ ls[i].top=true)(h2:i=0∨∃h:i-1<ls.length,¬ls[i-1].top≤ls[i].top)(h:qbj l ls[i].soil<0):qpz l ls i=6:=by
 rw[qlm hi,if_neg (by simp[h1]),if_neg,if_pos h]
 rintro⟨h3,h4⟩
 rcases h2 with h2|⟨h5,h2⟩
 ·omega
 ·rw[List.getElem?_eq_getElem h5]at h4;exact h2 h4
theorem qsC{l:List Soil}{ls:List Layer}{i:Nat}(hi:i<ls.length)(h1:qhQ ls[i].top=true)(h2:i=0∨∃h:i-1<ls.length,¬ls[i-1].top≤ls[i].top)(h:¬qbj l ls[i].soil<0):qpz l ls i=0:=by
 rw[qlm hi,if_neg (by simp[h1]),if_neg,if_neg h]
 rintro⟨h3,h4⟩
 rcases h2 with h2|⟨h5,h2⟩
 ·omega
 ·rw[List.getElem?_eq_getElem h5]at h4;exact h2 h4
theorem qjK{l:List Soil}{ls:List Layer}{i:Nat}{e:Int}(hi:i<ls.length)(hC:∀j,j<i→qpz l ls j=0)(h:qpz l ls i=e)(he:e≠0):e=qcK ls.length (qpz l ls):=by
 subst h
 exact(qig hi hC he).symm
theorem qki{l:List Soil}{ls:List Layer}{i:Nat}(hC:∀j,j<i→qpz l ls j=0)(h:qpz l ls i=0):∀j,j<i+1→qpz l ls j=0:=fun j hj=>by
 rcases Nat.lt_succ_iff_lt_or_eq.1 hj with h'|rfl
 ·exact hC j h'
 ·exact h
theorem c88(g:Ground)(b:Boring)(hl:g.soils.length<1000000000000):Contract Tryz.prog 165 [.agg (qam g),.agg (qbG b)] (.ret (.int .i64 (qn9 g.soils b))):=by
 refine zT mix Tryz.func165 Tryz.ntmps165 Tryz.results165 rfl rfl rfl ?_;simp only[qab,Nat.reduceAdd]
 repeat'(first|((with_reducible apply qae);rfl;(exact qHQ ⟨b.x,b.y⟩);rfl)|refine zQ ?_|(refine zC ?_ ?_<;>first|intro h|simp)|refine zE ?_|fail)
 ·simp only[qn9];rw[if_pos h]
 ·rename_i h1
  simp only[qn9];rw[if_neg (by simp[h1]),if_pos (by omega)]
 ·rename_i h1 h2
  simp only[qn9];rw[if_neg (by simp[h1]),if_neg (by omega),if_pos (by omega)]
 rename_i h1 h2
 have hb:qn9 g.soils b=qcK b.layers.length (qpz g.soils b.layers):=by
  simp only[qn9];rw[if_neg (by simp[h1]),if_neg (by omega),if_neg (by omega)]
 rw[hb]
 refine qad b.layers.length (fun i=>⟨[(28,.int .i64 i),(27,.int .i64 b.layers.length),(26,.sl (b.layers.map qeZ)),(3,.op 32 0 0),(2,.op 0 0 0)],[(32,⟨4,true,[qbG b]⟩),(0,⟨2,true,[qam g]⟩)],64,62⟩) (fun i=>∀j,j<i→qpz g.soils b.layers j=0)
  (qaa (k:=0) (ns:=[]) (ks:=[28,27,26,3,2]) [(32,32),(0,0)] rfl (by simp) rfl) (by omega) ?_
 intro i hi hC
 repeat'(first|((with_reducible (show qap _ (.call _) _ _ _ _));first|((with_reducible apply qae);rfl;(exact qHR _);rfl)|((with_reducible apply qaj);rfl;(exact qHS g.soils hl _);rfl))|refine zQ ?_|(refine zI ?_;intro hlt)|(refine zC ?_ ?_<;>first|intro h|simp)|(refine zG ?_ ?_<;>first|intro h|simp)|refine zE ?_|fail)
 all_goals try simp only[Int.toNat_natCast,show((i:Int)-1).toNat=i-1 by omega]at*
 all_goals first
  |exact(qaC fun j hj=>hC j (by omega)).symm
  |(have h3:i<b.layers.length:=by omega
    first
     |exact qjK h3 hC (qBk h3 (by assumption)) (by decide)
     |exact qjK h3 hC (qBl h3 (by assumption) (by omega) (by assumption)) (by decide)
     |exact qjK h3 hC (qsB h3 (by assumption) (.inl (by omega)) (by assumption)) (by decide)
     |exact qjK h3 hC (qsB h3 (by assumption) (.inr ⟨by omega,by assumption⟩) (by assumption)) (by decide)
     |exact⟨h3,qki hC (qsC h3 (by assumption) (.inl (by omega)) (by assumption)),qaa (k:=0) (ns:=[]) (ks:=[28,27,26,3,2]) [(32,32),(0,0)] rfl (by simp) rfl⟩
     |exact⟨h3,qki hC (qsC h3 (by assumption) (.inr ⟨by omega,by assumption⟩) (by assumption)),qaa (k:=0) (ns:=[]) (ks:=[28,27,26,3,2]) [(32,32),(0,0)] rfl (by simp) rfl⟩)
theorem qHV(gr:Ground):qEE [.agg (qam gr)]:=fun hp m ds ds' h=>by
 show(pur hp (m+16) (.agg (qam gr))).bind _=_
 have:pur hp (m+16) (.agg (qam gr))=some (.agg (qam gr)):=rfl
 rw[this]
 simp only[Option.bind_some]
 show(qbX hp (m+16) ([]++ds)).map _=_
 rw[List.nil_append,h]
 rfl
theorem qLJ(l:List Boring)(hl:l.length<1000000000000)(g:FuncId)(gr:Ground)(nm:Boring→ByteArray)(er:Boring→Int)(hn:∀x,Contract Tryz.prog g [.agg (qbG x)] (.ret (.str (nm x))))(he:∀x,Contract Tryz.prog 165 [.agg (qam gr),.agg (qbG x)] (.ret (.int .i64 (er x)))):
  Contract Tryz.prog 163 [.sl (l.map qbG),.clo (.func g) [] [],.clo (.func 165) [.agg (qam gr)] []] (.ret (.int .i64 (qg4 nm er l))):=by
 refine zT mix Tryz.func163 Tryz.ntmps163 Tryz.results163 rfl rfl rfl ?_;simp only[qab,Nat.reduceAdd]
 repeat'(first|refine zQ ?_|fail)
 refine qad l.length (fun i=>⟨[(13,.int .i64 i),(12,.int .i64 l.length),(11,.sl (l.map qbG)),(0,.sl (l.map qbG)),(2,.clo (.func 165) [.agg (qam gr)] []),(4,.op 0 0 0)],[(0,⟨1,false,[[.clo (.func g) [] []]]⟩)],32,36⟩) (fun i=>∀j,j<i→qcf nm er l j=0) (qaa (k:=0) (ns:=[]) (ks:=[13,12,11,0,2,4]) [(0,0)] rfl (by simp) rfl) (by omega) ?_
 intro i hi hC
 repeat'(first|refine zQ ?_|(refine zI ?_;intro hlt)|(refine zC ?_ ?_<;>first|intro h|simp)|refine zE ?_|fail)
 refine qgN (d1:=.agg (qbG l[i])) rfl rfl (fun _ _=>rfl) (hn _) rfl ?_
 repeat'(first|refine zQ ?_|fail)
 refine qae (args':=[.str (nm l[i])]) rfl (qHP _) rfl ?_
 repeat'(first|refine zQ ?_|(refine zC ?_ ?_<;>first|intro h|simp)|refine zE ?_|fail)
 ·have h2:i<l.length:=by omega
  exact qaV h2 hC (by simp[qcf,h2,h]) (by decide)
 refine qae (args':=[.sl ((l.take i).map qbG),.clo (.func 225) [] [.ptr [.clo (.func g) [] []],.ptr [.str (nm l[i])]]]) rfl (qLC (l.take i) (by simp;omega) 225 _ (fun _ _=>rfl) rfl (fun y=>decide (nm y=nm l[i])) fun y _=>qLD y _ _ g (hn y)) rfl ?_
 repeat'(first|refine zQ ?_|(refine zC ?_ ?_<;>first|intro h|simp)|refine zE ?_|fail)
 ·rename_i h1 _
  have h2:i<l.length:=by omega
  exact qaV h2 hC (by simp only[qcf,List.getElem?_eq_getElem h2,h, *];simp) (by decide)
 refine qnT (xs:=[.agg (qam gr)]) (d1:=.agg (qbG l[i])) (zL rfl) rfl (fun _=>rfl) (qHV gr) (he _) rfl (zL rfl) rfl ?_
 repeat'(first|refine zQ ?_|(refine zC ?_ ?_<;>first|intro h|simp)|refine zE ?_|fail)
 ·have h2:i<l.length:=by omega
  exact qaV h2 hC (by simp only[qcf,List.getElem?_eq_getElem h2, *];simp) h
 ·have h2:i<l.length:=by omega
  refine⟨h2,fun j hj=>?_,qaa (k:=0) (ns:=[]) (ks:=[13,12,11,0,2,4]) [(0,0)] rfl (by simp) rfl⟩
  rcases Nat.lt_succ_iff_lt_or_eq.1 hj with h'|rfl
  ·exact hC j h'
  ·simp only[qcf,List.getElem?_eq_getElem h2, *];simp
 ·refine(qaC fun j hj=>hC j (by omega)).symm
def qaB(g:Ground):Int:=if qcG g.soils≠0 then qcG g.soils else if g.borings.length=0 then 10 else if 20<g.borings.length then 8 else qg4 (·.name) (qn9 g.soils) g.borings
theorem c22(g:Ground)(hl:g.soils.length<1000000000000)(hb:g.borings.length<1000000000000):Contract Tryz.prog 88 [.agg (qam g)] (.ret (.int .i64 (qaB g))):=by
 refine zT mix Tryz.func88 Tryz.ntmps88 Tryz.results88 rfl rfl rfl ?_;simp only[qab,Nat.reduceAdd]
 repeat'(first|((with_reducible apply qaj);rfl;(exact c20 g.soils hl);rfl)|refine zQ ?_|(refine zC ?_ ?_<;>first|intro h|simp)|refine zE ?_|fail)
 ·simp only[qaB];rw[if_pos h]
 ·simp only[qaB];rw[if_neg (by simp[*]),if_pos (by omega)]
 ·simp only[qaB];rw[if_neg (by simp[*]),if_neg (by omega),if_pos (by omega)]
 refine qCr (us:=[.agg (qam g)]) (bs:=[]) rfl rfl rfl ?_
 repeat'(first|refine zA ?_|fail)
 refine qaj (args':=[.sl (g.borings.map qbG),.clo (.func 164) [] [],.clo (.func 165) [.agg (qam g)] []]) rfl (qLJ g.borings hb 164 g (·.name) (qn9 g.soils) c87 fun x=>c88 g x hl) rfl ?_
 repeat'(first|refine zA ?_|refine zE ?_|fail)
 simp only[qaB];rw[if_neg (by simp[*]),if_neg (by omega),if_neg (by omega)]
end Go.Pv.Soil

import Derived.Test.YtfklpkgdobdbpaaGreatCBN
import Derived.Test.YtfklpkgdobdbpaaGreatCBO
import Derived.Test.YtfklpkgdobdbpaaGreatCBP
/- Part of the proofs over YtfklpkgdobdbpaaGreat: N31. -/
set_option linter.unusedVariables false
set_option linter.unusedSimpArgs false
set_option linter.unnecessarySimpa false
open Go Go.Proofs Go.Pv
set_option maxHeartbeats 8000000
set_option maxRecDepth 100000
set_option linter.unusedSimpArgs false
set_option linter.unusedVariables false
namespace Go.Pv.Soil
def qqF(s:Site)(b:Grid)(c:Cut):Nat:=(qcq s b c).1.toNat
noncomputable def qfg(s:Site)(b:Grid)(c:Cut):Option (Int×Int):=
 (qed s b c (qaD s c) (qbB s b c) c.start (c.start+(qcq s b c).1)).or ((qeR (qca s c (qqF s b c)) (qbB s b c)).or (qeL s c (qbB s b c) (qcu s b c)))
def qve:Option (Int×Int)→List D
 |none=>[.int .i64 0,.int .i64 0,.int .i64 0]
 |some (r,c)=>[.int .i64 0,.int .i64 c,.int .i64 r]
theorem qDt:qDZ Tryz.prog 182:=⟨_,Tryz.func182,rfl,rfl⟩
theorem qqc{s:Site}(hs:OkSite s){b:Grid}(hb:OkBed s b){c:Cut}(hc:OkCut s c):(qbB s b c).length≤1024∧∀j (hj:j<(qbB s b c).length),(qbB s b c)[j]<b.levels.length∧c.level≤lv b.levels (qbB s b c)[j]∧lv b.levels (qbB s b c)[j]≠30000:=by
 obtain⟨ha,hlt,hpos,hle⟩:=qbm hs.bed hc
 have hlen:=hb.len hs.bed
 refine⟨Nat.le_trans qBA hle,fun j hj=>?_⟩
 obtain⟨h1,h2⟩:=List.mem_filter.1 (List.getElem_mem hj)
 have h2:=of_decide_eq_true h2
 exact⟨by rw[hlen];exact hlt _ h1,by have:=h2.2;omega,h2.1⟩
theorem qDu{E:St→St→Prop}{P:Program}{c:Code}{K:X→St→Prop}{st:St}(S:St)(h1:evG E P c (fun x s=>x=.normal∧s=S) st)(h2:K .normal S):evG E P c K st:=
 qqV c _ _ st (fun x s hx=>by obtain⟨e1,e2⟩:=hx;subst e1 e2;exact h2) h1
def qqd(s:Site)(b:Grid)(c:Cut)(cells:List Nat)(f t:Int):List D:=encSite s++qag b++encCut c++[.str .empty,.int .i64 0,.int .i64 0,.int .i64 0,.int .i64 0,.int .i64 0,.int .i64 0,.nilsl]++[.sl (cells.map qcx)]++[.int .i64 0,.int .i64 0,.int .i64 0,.int .i64 0,.int .i64 0,.nilsl]++[.nilsl,.int .i64 f,.int .i64 t]
def qg6(s:Site)(b:Grid)(c:Cut):List (Nat×D):=[(9,.undef),(7,.op 128 0 0),(6,.op 96 0 0),(5,.op 64 0 0),(4,.op 32 0 0),(3,.op 0 0 0),(0,.agg (encSite s)),(1,.agg (qag b)),(2,.agg (encCut c))]
def hp0(s:Site)(b:Grid)(c:Cut):List (Nat×Blk):=[(128,⟨1,true,[[.bool false]]⟩),(96,⟨3,true,[[.int .i64 0,.int .i64 0,.int .i64 0]]⟩),(64,⟨8,true,[encCut c]⟩),(32,⟨6,true,[qag b]⟩),(0,⟨12,true,[encSite s]⟩)]
def qFr(s:Site)(b:Grid)(c:Cut)(ft:List Nat)(mi:Int):List (Nat×D):=[(8,.op 512 0 0),(21,.op 512 0 0),(20,.agg (qqd s b c ft c.start (c.start+mi))),(19,.agg [.int .i64 c.start,.int .i64 (c.start+mi)]),(18,.agg (encCut c)),(17,.agg (qag b)),(16,.agg (encSite s)),(15,.sl (ft.map qcx)),(14,.agg (encCut c)),(13,.agg (encSite s)),(12,.agg (encCut c)),(11,.agg (qag b)),(10,.agg (encSite s))]++qg6 s b c
def qyb(s:Site)(b:Grid)(c:Cut)(d:Dred)(cells:List Nat)(f t:Int):List D:=encSite s++qag b++encCut c++qa4 d++[.sl (cells.map qcx)]++[.int .i64 0,.int .i64 0,.int .i64 0,.int .i64 0,.int .i64 0,.nilsl]++[.nilsl,.int .i64 f,.int .i64 t]
def qG7(s:Site)(b:Grid)(c:Cut)(ft:List Nat)(mi:Int)(d:Dred)(w:Bool):List (Nat×D):=[(31,.op 512 0 26),(30,.op 512 0 0),(29,.bool w),(28,.agg (qa4 d)),(22,.tup [.agg (qa4 d),.bool w]),(27,.tup [.agg (qa4 d),.bool w]),(26,.str c.dredger),(25,.op 64 0 1),(24,.agg (encSite s)),(23,.op 512 0 0)]++qFr s b c ft mi
def qKx(s:Site)(b:Grid)(c:Cut)(ft:List Nat)(mi:Int)(d:Dred)(w:Bool)(a:Grid)(lc:List Nat):List (Nat×D):=[(44,.op 512 0 41),(43,.op 512 0 0),(42,.op 512 0 35),(41,.op 512 0 0),(40,.sl (lc.map qcx)),(39,.agg (qag a)),(32,.tup [.agg (qag a),.sl (lc.map qcx)]),(38,.tup [.agg (qag a),.sl (lc.map qcx)]),(37,.agg (encCut c)),(36,.agg (qag b)),(35,.agg (encSite s)),(34,.op 512 0 0),(33,.op 512 0 0)]++qG7 s b c ft mi d w
theorem qcI{α:Type}{a b:Option α}:a.or b=none↔a=none∧b=none:=by cases a<;>simp
theorem qiB(s:Site)(hz:Sized s)(hs:OkSite s)(b:Grid)(hb:OkBed s b)(h100:b.levels.length≤100)(c:Cut)(hc:OkCut s c):Contract Tryz.prog 107 [.agg (encSite s),.agg (qag b),.agg (encCut c)] (.ret (.tup [.agg (qve (qfg s b c)),.bool (qfg s b c).isSome])):=by
 obtain⟨ha,hlt,hpos,hle⟩:=qbm hs.bed hc
 obtain⟨hll,hlo⟩:=qqc hs hb hc
 have hlen:=hb.len hs.bed
 have hlow:=qeH hs.bed hb hc
 have hef:=qiA hs hb h100 hc
 have hst:=hc.st
 have k1:=qeG s hs.bed c hc
 have k2:=qp1 s hs hz b hb h100 c hc
 have k3:=qly s (by have:=hs.dreds;omega) c.dredger
 have k4:=qiw s hs.bed b hb c hc
 have k5:=qDl s hz hs b hb c hc (qaD s c) hpos hle (fun j hj=>by rw[hlen];exact hlt _ (List.getElem_mem hj)) (qcu s b c) (qbB s b c) hll hlo c.start (c.start+(qcq s b c).1) hst (by omega)
 have k7:=qAm s hz hs b c (qaD s c) (qcu s b c) hlow.er (qbB s b c) hll (fun j hj=>by rw[←hlen];exact(hlo j hj).1) c.start (c.start+(qcq s b c).1)
 have k6:qed s b c (qaD s c) (qbB s b c) c.start (c.start+(qcq s b c).1)=none→Contract Tryz.prog 185 [.ptr (qbz s b c (dredOf s c.dredger) (qaD s c) (qcu s b c) (qbB s b c) c.start (c.start+(qcq s b c).1))] (qG5 (qeR (qca s c (qqF s b c)) (qbB s b c))):=fun h=>by
  unfold qed at h
  simp only[qcI]at h
  obtain⟨-,-,-,-,h6,h8⟩:=h
  have h8:(qcq s b c).1≤3000∧c.start+(qcq s b c).1≤1000001:=by
   by_cases h9:c.start+(qcq s b c).1-c.start≤3000∧c.start+(qcq s b c).1≤1000001
   ·omega
   ·rw[if_neg h9]at h8;cases h8
  refine qDr s hz hs b hb c hc (qaD s c) (qcu s b c) (qbB s b c) hll (fun j hj=>(hlo j hj).1) (qqF s b c) (c.start+(qcq s b c).1) (by unfold qqF;omega) (fun hl=>?_) (by unfold qqF;omega) (by omega)
  have hm:qva (dredOf s c.dredger) (qbk s b c)=false:=by
   rw[Bool.eq_false_iff]
   intro hm
   obtain⟨i,hi,h⟩:=(qAn hs hb hc).1 hm
   unfold findR at h6
   rw[Option.map_eq_none_iff,List.find?_eq_none]at h6
   exact h6 i hi h
  have:=qrC hs hb h100 hc hl hm
  unfold qqF;omega
 unfold qfg
 generalize qed s b c (qaD s c) (qbB s b c) c.start (c.start+(qcq s b c).1)=p1 at*
 generalize qeR (qca s c (qqF s b c)) (qbB s b c)=p2 at*
 generalize qeL s c (qbB s b c) (qcu s b c)=p3 at*
 generalize (qcq s b c).1=mi at*
 generalize dredOf s c.dredger=dr at*
 generalize qaD s c=ft at*
 generalize qcu s b c=lg at*
 generalize qbB s b c=lc at*
 have hrun:∀(o:Option (Int×Int)) (cs:List D) (bb:Bool),o=p1.or (p2.or p3)→cs=qve o→bb=o.isSome→Contract Tryz.prog 107 [.agg (encSite s),.agg (qag b),.agg (encCut c)] (.ret (.tup [.agg cs,.bool bb])):=fun o cs bb ho hcs hbb=>by
  refine qld mix Tryz.func107 rfl rfl (by rw[Tryz.ntmps107];exact zL rfl) (by rw[Tryz.results107]) rfl rfl rfl rfl rfl rfl (by decide) qDt rfl ?_ ?_
  ·subst hcs;cases o<;>rfl
  rw[Tryz.results107,Tryz.ntmps107]
  simp only[qab,Nat.reduceAdd]
  repeat'(first|refine zQ ?_|fail)
  refine⟨rfl,rfl,96,128,_,_,rfl,rfl,by decide,rfl,rfl,rfl,rfl,?_⟩
  dsimp only
  repeat refine qbK ?_
  refine qDu ⟨qFr s b c ft mi,(512,⟨44,false,[qqd s b c ft c.start (c.start+mi)]⟩)::hp0 s b c,576,52⟩ ?_ ?_
  ·repeat'(first|refine zQ ?_|refine zF k1 ?_|refine zF k2 ?_|fail)
   exact⟨rfl,by kernel_rfl⟩
  unfold qFr qg6 hp0
  simp only[List.cons_append,List.nil_append]
  refine qqS ?_
  refine qbK ?_
  refine qDu ⟨qG7 s b c ft mi dr (decide (0≤qdb s c.dredger)),(512,⟨44,false,[qyb s b c dr ft c.start (c.start+mi)]⟩)::hp0 s b c,928,52⟩ ?_ ?_
  ·repeat'(first|((with_reducible apply qb9);rfl;rfl;rfl)|refine zS ?_|refine zA ?_|refine zF k3 ?_|fail)
   exact⟨rfl,by kernel_rfl⟩
  unfold qG7 qFr qg6 hp0
  simp only[List.cons_append,List.nil_append]
  refine qqS ?_
  refine qbK ?_
  refine qDu ⟨qKx s b c ft mi dr (decide (0≤qdb s c.dredger)) lg lc,(512,⟨44,false,[qbz s b c dr ft lg lc c.start (c.start+mi)]⟩)::hp0 s b c,1408,52⟩ ?_ ?_
  ·repeat'(first|((with_reducible apply qb9);rfl;rfl;rfl)|refine zS ?_|refine zA ?_|refine zF k4 ?_|fail)
   exact⟨rfl,by kernel_rfl⟩
  unfold qKx qG7 qFr qg6 hp0
  simp only[List.cons_append,List.nil_append]
  cases p1 with
  |some v=>
   repeat'(first|(with_reducible apply qaW)|(with_reducible apply qbu)|((with_reducible apply qlg);rfl;(exact k5);rfl)|refine zS ?_|refine zA ?_|fail)
   obtain⟨r,ce⟩:=v
   subst hcs hbb ho
   exact⟨rfl,rfl,rfl,qoo r ce⟩
  |none=>
   have k6:=k6 rfl
   cases p2 with
   |some v=>
    repeat'(first|(with_reducible apply qaW)|(with_reducible apply qbu)|((with_reducible (show qap _ (.call _) _ _ _ _));first|((with_reducible apply qer);rfl;(exact k5);rfl)|((with_reducible apply qlg);rfl;(exact k6);rfl))|refine zS ?_|refine zA ?_|fail)
    obtain⟨r,ce⟩:=v
    subst hcs hbb ho
    exact⟨rfl,rfl,rfl,qoo r ce⟩
   |none=>
    cases p3 with
    |some v=>
     repeat'(first|(with_reducible apply qaW)|(with_reducible apply qbu)|((with_reducible (show qap _ (.call _) _ _ _ _));first|((with_reducible apply qer);rfl;(exact k5);rfl)|((with_reducible apply qer);rfl;(exact k6);rfl)|((with_reducible apply qlg);rfl;(exact k7);rfl))|refine zS ?_|refine zA ?_|fail)
     obtain⟨r,ce⟩:=v
     subst hcs hbb ho
     exact⟨rfl,rfl,rfl,qoo r ce⟩
    |none=>
     repeat'(first|((with_reducible (show qap _ (.call _) _ _ _ _));first|((with_reducible apply qer);rfl;(exact k5);rfl)|((with_reducible apply qer);rfl;(exact k6);rfl)|((with_reducible apply qer);rfl;(exact k7);rfl))|refine zQ ?_|fail)
     subst hcs hbb ho
     exact⟨qya,rfl⟩
 exact hrun _ _ _ rfl rfl rfl
end Go.Pv.Soil

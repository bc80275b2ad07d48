import Derived.Test.YtfklpkgdobdbpaaGreatTC
/- Part of the proofs over YtfklpkgdobdbpaaGreat: N78, N72, N86, N98, N102. -/
set_option linter.unusedVariables false
set_option linter.unusedSimpArgs false
set_option linter.unnecessarySimpa false
open Go Go.Proofs Go.Pv
set_option maxHeartbeats 8000000
set_option maxRecDepth 100000
set_option linter.unusedSimpArgs false
set_option linter.unusedVariables false
namespace Go.Pv.Soil
theorem qdO{p:Nat→Bool}{r:Int}{l:List Nat}:findR p r l=none↔∀i∈l,p i=false:=by
 unfold findR
 rw[Option.map_eq_none_iff,List.find?_eq_none]
 exact⟨fun h i hi=>by simpa using h i hi,fun h i hi=>by rw[h i hi];simp⟩
theorem qvw{e:Nat→Int}{l:List Nat}:qeR e l=none↔∀i∈l,e i=0:=by
 unfold qeR
 rw[Option.map_eq_none_iff,List.find?_eq_none]
 exact⟨fun h i hi=>by simpa using h i hi,fun h i hi=>by rw[h i hi];simp⟩
theorem ql9{low:List Nat}{l:List Steep}:qgB low l=none↔∀x∈l,qp7 low x=false:=by
 unfold qgB
 rw[Option.map_eq_none_iff,List.find?_eq_none]
 exact⟨fun h i hi=>by simpa using h i hi,fun h i hi=>by rw[h i hi];simp⟩
structure Passes(s:Site)(b:Grid)(c:Cut):Prop where
 form:qms (dredOf s c.dredger) c=true
 unk:∀i∈qaD s c,qAi b i=false
 guard:∀i∈qaD s c,qd2 s i=false
 deep:∀i∈qbB s b c,qp3 b c (dredOf s c.dredger) i=false
 lack:∀i∈qbB s b c,qmt s b c i=false
 time:c.start+(qcq s b c).1-c.start≤3000∧c.start+(qcq s b c).1≤1000001
 reach:∀i∈qbB s b c,qca s c (qqF s b c) i=0
 quay:∀i∈qbB s b c,qlQ s c i=false
 steep:∀x∈qbI s.ground (qcu s b c) (qcu s b c).levels.length,qp7 (qbB s b c) x=false
theorem qtR{p:Prop}[Decidable p]{x:Int×Int}:(if p then(none:Option (Int×Int))else some x)=none↔p:=by
 constructor
 ·intro h
  split at h
  ·assumption
  ·cases h
 ·intro h;exact if_pos h
theorem qtS{s:Site}{b:Grid}{c:Cut}:qfg s b c=none↔Passes s b c:=by
 unfold qfg qed qeL
 rw[qcI,qcI,qcI,qcI,qcI,qcI,qcI,qcI,qtR,qtR,qdO,qdO,qdO,qdO,qvw,qdO,ql9]
 exact⟨fun⟨⟨h1,h2,h3,h4,h5,h6⟩,h7,h8,h9⟩=>⟨h1,h2,h3,h4,h5,h6,h7,h8,h9⟩,fun h=>⟨⟨h.1,h.2,h.3,h.4,h.5,h.6⟩,h.7,h.8,h.9⟩⟩
instance qKB:TInt Tryz.prog 5 .u8:=⟨by kernel_rfl⟩
structure FitS(s:Site):Prop where
 z:Sized s
 d:s.dreds.length<1000000000000
theorem qIn{s:Site}{l:List Cut}(h:qcy s l=0){i:Nat}(hi:i<l.length):qcy s [l[i]]=0:=by
 have h1:=(qcw h).2
 unfold qcy at h ⊢
 split at h
 ·contradiction
 rename_i h0
 rw[if_neg h0]
 unfold qls at h1 ⊢
 split at h1
 ·cases h1
 obtain⟨h2,h3⟩:=qgt h1 hi
 rw[if_neg (by simp)]
 refine qaC fun j hj=>?_
 obtain rfl:j=0:=by simpa using hj
 simp[qcf,h2,h3]
theorem qIo{s:Site}{b:Grid}{c:Cut}(h:qcy s [c]=0)(hb:OkBed s b):onE s b c=0:=by
 unfold onE
 rw[if_neg (not_not_intro h),if_neg (not_not_intro hb.er),if_pos hb.al]
theorem qNe{s:Site}(ok:OkSite s){b:Grid}(hb:OkBed s b){c:Cut}(hc:OkCut s c)(h:qfg s b c=none):qBH (qcq s b c)=0:=by
 have hm:¬qva (dredOf s c.dredger) (qbk s b c)=true:=fun hm=>by
  obtain⟨i,hi,hx⟩:=(qAn ok hb hc).1 hm
  have:=(qtS.1 h).lack i hi
  rw[hx]at this
  cases this
 unfold qBH qcq qiS
 rw[if_neg hm]
 rfl
theorem qM9{s:Site}(ok:OkSite s){b:Grid}(hb:OkBed s b)(h100:b.levels.length≤100){c:Cut}(hc:OkCut s c):0≤(qcq s b c).2.1∧(qcq s b c).2.1≤40000000000000000:=by
 have hef:=qiA ok hb h100 hc
 refine⟨hef.2.1,?_⟩
 have hv:=qlL ok.gr ok.bed hb h100 hc
 have hD:=ok.dredOf hc
 have hlen:(qbk s b c).length≤8:=by rw[qkn];exact qfs (okG ok.gr)
 have hm1:=hef.1
 unfold qcq qiS at hm1 ⊢
 by_cases hmi:qva (dredOf s c.dredger) (qbk s b c)=true
 ·rw[if_pos hmi];simp
 ·rw[if_neg hmi]at hm1 ⊢
  simp only at hm1 ⊢
  have h2:=(qnk hD hv (qbk s b c).length (Nat.le_refl _) fun j hj hj' h0=>by
   rcases Int.lt_or_le (qg5 (dredOf s c.dredger) (qbk s b c)[j].soil) 0 with h|h
   ·exact absurd (List.any_eq_true.2 ⟨_,List.getElem_mem hj',by rw[Bool.and_eq_true,decide_eq_true_eq,decide_eq_true_eq];exact⟨h0,h⟩⟩) hmi
   ·exact h).2
  rw[List.take_length]at h2
  have hh:=hD.n.2.2.2.2.2
  have h3:=qbN (a:=qhR (dredOf s c.dredger) (qbk s b c)) (b:=(dredOf s c.dredger).hour) (m:=2304000000000) (n:=1000000) hm1 hh
  have h4:=qBG (a:=qhR (dredOf s c.dredger) (qbk s b c)*(dredOf s c.dredger).hour) (b:=60) (B:=38400000000000000) (by omega) h3.1 (by omega)
  omega
theorem qM1{s:Site}{l:List Cut}(h:qcy s l=0){o:List Nat}(ho:∀k∈o,k<l.length){i:Nat}(hi:i<(qvm l o).length):qcy s [(qvm l o)[i]]=0:=by
 have hio:i<o.length:=by rw[←qtH ho];exact hi
 rw[qMx ho hio hi]
 exact qIn h _
theorem qNa{s:Site}(ok:OkSite s)(h100:s.bed.levels.length≤100){L:List Cut}(hL:∀i (hi:i<L.length),OkCut s L[i]):∀i,i≤L.length→0≤prS s L i∧prS s L i≤40000000000000000*i
 |0,_=>by simp[prS]
 |i+1,h=>by
  have ih:=qNa ok h100 hL i (by omega)
  have hok:=qgE ok hL i
  have hlen:=hok.len ok.bed
  have:=qM9 ok hok (by omega) (hL i (by omega))
  rw[prS,qtA (by omega)]
  omega
theorem qM2{s:Site}{l:List Cut}(hl:∀i (hi:i<l.length),OkCut s l[i]){o:List Nat}(ho:IsO l.length o){i:Nat}(hi:i<o.length)(hi2:i<(qvm l o).length):Ord.qMG (qaq s l) 0 (o.take (i+1))=(Ord.qMG (qaq s l) 0 (o.take i)&&(qfg s (qcz s (qvm l o) i) (qvm l o)[i]).isNone):=by
 rw[Ord.qMI hi,qMK hl ho hi,qMx ho.lt hi hi2]
theorem qM3{s:Site}{l:List Cut}(hl:∀i (hi:i<l.length),OkCut s l[i]){o:List Nat}(ho:o∈Ord.ordL l.length (qaq s l) l.length 0){i:Nat}(hi:i<o.length)(hi2:i<(qvm l o).length):qfg s (qcz s (qvm l o) i) (qvm l o)[i]=none:=by
 obtain⟨hio,hlen⟩:=qDD ho
 have h1:=qMK (s:=s) hl hio hi
 rw[Ord.qNx (Ord.qMR.1 ho).2.2 hi]at h1
 rw[qMx hio.lt hi hi2]
 exact Option.isNone_iff_eq_none.1 h1.symm
def qMD:Site:=⟨⟨0,0,1000,3,1,[-500,-500,-500]⟩,⟨[⟨"s".toUTF8,100,1,1,1⟩],[⟨"b".toUTF8,0,0,[⟨0, "s".toUTF8⟩]⟩]⟩,[],[],[⟨"g".toUTF8,0,0,[⟨0,0⟩,⟨100000,0⟩]⟩],[⟨"c".toUTF8,0,1000,3,1,200,0,[⟨"s".toUTF8,1000,0⟩]⟩]⟩
def qNl(v:Int):Cut:=⟨"a".toUTF8, "c".toUTF8,0,0,2,1,v,0⟩
theorem qMC:Sized qMD:=⟨by decide,by decide,by decide,by decide,by decide,by decide,by intro g hg;simp[qMD]at hg;subst hg;decide,by decide,by intro g hg;simp[qMD]at hg;subst hg;decide⟩
theorem qM6:Contract Tryz.prog 152 [] (.ret (.agg (encSite qMD))):=by
 refine zT mix Tryz.func152 Tryz.ntmps152 Tryz.results152 rfl rfl rfl ?_;simp only[qab,Nat.reduceAdd]
 exact qtt (fuel:=1000) (k:=20) mix (by kernel_rfl) rfl
theorem qMW:onE qMD qMD.bed (qNl (-600))=0∧onE qMD qMD.bed (qNl (-601))=0:=⟨by kernel_rfl,by kernel_rfl⟩
theorem qNq:qNi qMD qMD.bed (qNl (-600))=none:=by kernel_rfl
theorem qNr:qNi qMD qMD.bed (qNl (-601))=some (14,1):=by kernel_rfl
theorem qMP:Contract Tryz.prog 76 [] (.ret (.bool true)):=by
 have h0:=qM6
 have h1:=qMz qMD qMC (by decide) qMD.bed (by decide) (qNl (-600))
 have h2:=qMz qMD qMC (by decide) qMD.bed (by decide) (qNl (-601))
 have hc:=qNr
 rw[qNq,qMW.1]at h1
 rw[hc,qMW.2]at h2
 refine zT mix Tryz.func76 Tryz.ntmps76 Tryz.results76 rfl rfl rfl ?_;simp only[qab,Nat.reduceAdd]
 repeat'(first|((with_reducible apply qkc);rfl;rfl;rfl)|((with_reducible apply(qaS 10 [[7,8],[8],[]]));decide +kernel;rfl)|(with_reducible apply qaR)|(with_reducible apply qav)|(with_reducible apply qas)|(with_reducible apply qby)|(with_reducible apply qaA)|(with_reducible apply qcv)|(with_reducible apply qaw)|((with_reducible apply qa9);rfl;(intro id'))|((with_reducible apply qaT);rfl)|refine zS ?_|refine zA ?_|refine zF h0 ?_|refine zF h1 ?_|refine zF h2 ?_|refine zE ?_|fail)
 all_goals rfl
end Go.Pv.Soil

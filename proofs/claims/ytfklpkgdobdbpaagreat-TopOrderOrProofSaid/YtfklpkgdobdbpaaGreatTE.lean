import Derived.Test.YtfklpkgdobdbpaaGreatTA
import Derived.Test.YtfklpkgdobdbpaaGreatTD
/- Part of the proofs over YtfklpkgdobdbpaaGreat: N97, N92. -/
set_option linter.unusedVariables false
set_option linter.unusedSimpArgs false
set_option linter.unnecessarySimpa false
open Go Go.Proofs Go.Pv
set_option maxHeartbeats 8000000
set_option maxRecDepth 100000
set_option linter.unusedSimpArgs false
set_option linter.unusedVariables false
namespace Go.Pv.Soil
theorem qNg(n:Nat)(c:Int):IsO n (Ord.qNf n (List.range n) c)∧(Ord.qNf n (List.range n) c).length=n:=by
 have hp:=Ord.qMU (m:=n) (L:=List.range n) (c:=c) (by simp)
 refine⟨⟨fun k hk=>List.mem_range.1 (hp.mem_iff.1 hk),hp.nodup_iff.2 List.nodup_range⟩,?_⟩
 rw[hp.length_eq,List.length_range]
theorem qM5{a b:Int}(hb:0<b)(ha:I64 a):I64 (a.tdiv b):=by
 obtain⟨h1,h2⟩:=ha
 rcases Int.lt_or_le a 0 with h|h
 ·obtain⟨x,rfl⟩:∃x:Int,a= -x:=⟨-a,by omega⟩
  rw[Int.neg_tdiv]
  obtain⟨e1,e2,e3⟩:=qfl (a:=x) (b:=b) (by omega) hb
  have hle:x/b≤x:=Int.ediv_le_self b (by omega)
  have h0:0≤x/b:=Int.ediv_nonneg (by omega) (by omega)
  rw[e1]
  exact⟨by omega,by omega⟩
 ·obtain⟨e1,e2,e3⟩:=qfl (a:=a) (b:=b) h hb
  have hle:a/b≤a:=Int.ediv_le_self b h
  have h0:0≤a/b:=Int.ediv_nonneg h (by omega)
  rw[e1]
  exact⟨by omega,by omega⟩
theorem qNh(n:Nat)(hn:n≤5)(c:Int)(hc:I64 c):Contract Tryz.prog 78 [.int .i64 n,.int .i64 c] (.ret (.sl ((Ord.qNf n (List.range n) c).map qcx))):=by
 generalize hR:Ord.qNf n (List.range n) c=R
 refine zT mix Tryz.func78 Tryz.ntmps78 Tryz.results78 rfl rfl rfl ?_;simp only[qab,Nat.reduceAdd]
 repeat'(first|refine zQ ?_|fail)
 refine qad n (fun i=>⟨[(5,.os 1 0 i),(6,.nilsl),(7,.int .i64 i),(0,.int .i64 n),(1,.int .i64 c)],[(1,⟨1,true,(List.range i).map qcx⟩)],64,46⟩) (fun i=>True) ?_ trivial ?_
 ·exact qaa (nx:=64) (k:=1) (ns:=[(5,1)]) (ks:=[6,7,0,1]) [] rfl (by simp;rfl) (by kernel_rfl)
 intro i hi _
 by_cases hL:i<n
 ·repeat'(first|refine zQ ?_|(refine zC ?_ ?_<;>first|intro h|simp)|fail)
  all_goals try exact absurd hL (by omega)
  refine qaH (f:=qcx) (a:=i) (l:=List.range i) qlD rfl rfl rfl (by simp) rfl rfl (by kernel_rfl) (by kernel_rfl) (by omega) rfl ?_
  repeat'(first|refine zQ ?_|fail)
  refine⟨hL,trivial,?_⟩
  rw[←List.range_succ]
  exact qaa (nx:=64) (k:=1) (ns:=[]) (ks:=[5,6,7,0,1]) [(1,1)] rfl (by simp) (by kernel_rfl)
 obtain rfl:i=n:=by omega
 repeat'(first|refine zQ ?_|(refine zC ?_ ?_<;>first|intro h|simp)|fail)
 all_goals try exact absurd (show i<i by omega) hL
 refine qib (σ:=List Nat×List Nat×Int) (fun x=>x.2.1.length) (fun x=>⟨[(6,.os 2 0 x.1.length),(5,.sl (x.2.1.map qcx)),(1,.int .i64 x.2.2)],[(2,⟨1,true,x.1.map qcx⟩)],96,46⟩) (fun x=>x.1++Ord.qNf x.2.1.length x.2.1 x.2.2=R∧x.1.length+x.2.1.length=i∧I64 x.2.2) ([],List.range i,c) ?_ ⟨by simpa using hR,by simp,hc⟩ ?_
 ·refine qcr.trans (qm3 [1] [(5,.sl ((List.range i).map qcx))] fun x hx=>?_) (qaa (nx:=96) (k:=1) (ns:=[(6,2)]) (ks:=[5,1]) [] rfl (by simp;rfl) (by kernel_rfl))
  simp only[List.mem_singleton]at hx
  subst hx
  exact qBf (k:=1) rfl (by simp)
 rintro⟨O,L,d⟩ ⟨hC,hlen,hd⟩
 dsimp only at hC hlen hd ⊢
 by_cases hL0:L.length=0
 ·have e:O=R:=by rw[←hC,hL0];simp[Ord.qNf]
  subst e
  repeat'(first|refine zQ ?_|(refine zC ?_ ?_<;>first|intro h|simp)|fail)
  all_goals try(exfalso;omega)
  exact qwU (f:=qcx) (l:=O) rfl rfl rfl rfl
 obtain⟨m,hm⟩:∃m,L.length=m+1:=⟨L.length-1,by omega⟩
 have hmod:=c44 d (L.length:Int) ⟨by omega,by omega⟩
 obtain⟨k,hk⟩:∃k:Nat,d%(L.length:Int)=(k:Int):=⟨(d%(L.length:Int)).toNat,by have:=Int.emod_nonneg d (show(L.length:Int)≠0 by omega);omega⟩
 have hkl:k<L.length:=by have:=Int.emod_lt_of_pos d (show(0:Int)<(L.length:Int)by omega);omega
 rw[hk]at hmod
 have hcp:=qNp (L.take k) (by rw[List.length_take];omega)
 have hdr:=qM5 (b:=(L.length:Int)) (by omega) hd
 repeat'(first|refine zQ ?_|refine zF hmod ?_|(refine zC ?_ ?_<;>first|intro h|simp)|fail)
 all_goals try(exfalso;omega)
 refine qBb rfl rfl rfl (by omega) hdr ?_
 repeat'(first|refine zQ ?_|(refine zI ?_;intro hlt)|fail)
 refine qaH (f:=qcx) (a:=L[k]) (l:=O) qlD rfl rfl rfl rfl rfl rfl (by kernel_rfl) (by kernel_rfl) (by omega) rfl ?_
 repeat'(first|((with_reducible apply qdT);rfl;(exact hcp);(exact qlD);rfl)|refine zQ ?_|fail)
 refine qMQ (f:=qcx) (l:=L.take k) (l2:=L.drop (k+1)) qNs rfl rfl rfl rfl (by kernel_rfl) (by kernel_rfl) (by rw[List.length_take,List.length_drop];omega) rfl ?_
 repeat'(first|refine zA ?_|fail)
 refine⟨(O++[L[k]],L.take k++L.drop (k+1),d.tdiv L.length),?_,⟨?_,?_,hdr⟩,?_⟩
 ·dsimp only;rw[List.length_append,List.length_take,List.length_drop];omega
 ·rw[←hC]
  have e1:(L.take k++L.drop (k+1)).length=m:=by rw[List.length_append,List.length_take,List.length_drop];omega
  have e2:(d%((m+1:Nat):Int)).toNat=k:=by rw[←hm,hk];rfl
  dsimp only
  rw[e1,hm,Ord.qNf,e2,List.getD_eq_getElem?_getD,List.getElem?_eq_getElem hkl]
  simp
 ·dsimp only;rw[List.length_append,List.length_append,List.length_take,List.length_drop,List.length_singleton];omega
 simp only[Nat.reduceAdd,Nat.reduceMul]
 refine qcr.trans (qm3 [864] [(5,.sl ((L.take k++L.drop (k+1)).map qcx))] fun x hx=>?_) ?_
 ·simp only[List.mem_singleton]at hx
  subst hx
  exact qBf (k:=1) rfl (List.length_map _)
 ·rw[show(O++[L[k]]).length=O.length+1 by simp]
  exact qaa (nx:=96) (k:=0) (ns:=[]) (ks:=[6,5,1]) [(2,2)] rfl (by simp) (by kernel_rfl)
theorem law_either(s:Site)(hw:Wide s)(l:List Cut)(hl:l.length≤9223372036854775807)(ch:Int)(hch:I64 ch):Contract Tryz.prog 18 [.agg (encSite s),.sl (l.map encCut),.int .i64 ch] (.ret (.bool true)):=by
 have h0:=qMP
 have h1:=qkv s hw
 have h2:Contract Tryz.prog 21 [.sl (l.map encCut),.int .i64 5] (.ret (.bool (qvG l 5))):=qAN l hl 5 (by omega)
 cases hs:qmv s with
 |false=>
  rw[hs]at h1
  refine zT mix Tryz.func18 Tryz.ntmps18 Tryz.results18 rfl rfl rfl ?_;simp only[qab,Nat.reduceAdd]
  repeat'(first|(with_reducible rfl)|refine zQ ?_|refine zF h0 ?_|refine zF h1 ?_|refine zE ?_|fail)
  all_goals first|rfl|(exfalso;simp at *;done)|trace_state
 |true=>
 rw[hs]at h1
 obtain⟨hz,h16,hd8,_,_,_⟩:=qgZ hw hs
 cases hf:qvG l 5 with
 |false=>
  rw[hf]at h2
  refine zT mix Tryz.func18 Tryz.ntmps18 Tryz.results18 rfl rfl rfl ?_;simp only[qab,Nat.reduceAdd]
  repeat'(first|(with_reducible rfl)|refine zQ ?_|refine zF h0 ?_|refine zF h1 ?_|refine zF h2 ?_|refine zE ?_|fail)
  all_goals first|rfl|(exfalso;simp at *;done)|trace_state
 |true=>
 rw[hf]at h2
 have h5:=qyQ hf
 have a2:=qfS s hz l hl (by omega)
 by_cases hall:qcy s l=0
 rotate_left
 ·generalize qcy s l=q at*
  refine zT mix Tryz.func18 Tryz.ntmps18 Tryz.results18 rfl rfl rfl ?_;simp only[qab,Nat.reduceAdd]
  repeat'(first|(with_reducible rfl)|refine zQ ?_|refine zF h0 ?_|refine zF h1 ?_|refine zF h2 ?_|refine zF a2 ?_|(refine zC ?_ ?_<;>first|intro h|simp)|refine zE ?_|fail)
  all_goals first|rfl|(exfalso;omega)|(exfalso;simp at *;done)|trace_state
 rw[hall]at a2
 obtain⟨hls,hlc⟩:=qd7 hall
 have ok:=(qcw hall).1
 have a1:=qyL s hz (by omega) (by omega) l hl
 have a3:=qNh l.length h5 ch hch
 obtain⟨hO,hOl⟩:=qNg l.length ch
 have hacc:=Ord.qMR (n:=l.length) (R:=qaq s l) (m:=l.length) (s:=0) (o:=Ord.qNf l.length (List.range l.length) ch)
 generalize Ord.qNf l.length (List.range l.length) ch=o at*
 have a4:=qM4 l (by omega) o hO.lt (by omega)
 have a5:Contract Tryz.prog 79 [.agg (qag s.bed)] (.ret (.agg (qag s.bed))):=qEU qrk (c91 s.bed (by omega))
 have a6:=qlW s ok l (by omega) hlc l.length (Nat.le_refl _)
 have a7:=qEc s hz (by omega) (by omega) l hl
 have hLl:=qtH (l:=l) hO.lt
 have hLc:=qME hlc hO.lt
 have hbed:∀i,OkBed s (qcz s (qvm l o) i):=fun i=>qgE ok hLc i
 have hblen:∀i,(qcz s (qvm l o) i).levels.length=s.bed.levels.length:=fun i=>(hbed i).len ok.bed
 have hon:∀i (hi:i<(qvm l o).length),onE s (qcz s (qvm l o) i) (qvm l o)[i]=0:=fun i hi=>qIo (qM1 hall hO.lt hi) (hbed i)
 have c1:∀i (hi:i<(qvm l o).length),Contract Tryz.prog 28 [.agg (encSite s),.agg (qag (qcz s (qvm l o) i)),.agg (encCut (qvm l o)[i])] (.ret (.tup [.agg (qve (qfg s (qcz s (qvm l o) i) (qvm l o)[i])),.bool (qfg s (qcz s (qvm l o) i) (qvm l o)[i]).isSome,.int .i64 0])):=fun i hi=>by
  have:=qMz s hz (by omega) (qcz s (qvm l o) i) (by rw[hblen];omega) (qvm l o)[i]
  rw[show qNi s (qcz s (qvm l o) i) (qvm l o)[i]=qfg s (qcz s (qvm l o) i) (qvm l o)[i]from if_pos (hon i hi),hon i hi]at this
  exact this
 have c2:∀i (hi:i<(qvm l o).length),Contract Tryz.prog 46 [.agg (encSite s),.agg (qag (qcz s (qvm l o) i)),.agg (encCut (qvm l o)[i])] (.ret (.tup [.int .i64 (prE s (qvm l o) i),.int .i64 (qBH (qcq s (qcz s (qvm l o) i) (qvm l o)[i]))])):=fun i hi=>by
  have:=qDj s hz (by omega) (qcz s (qvm l o) i) (by rw[hblen];omega) (qvm l o)[i]
  rw[show qH4 s (qcz s (qvm l o) i) (qvm l o)[i]=(qcq s (qcz s (qvm l o) i) (qvm l o)[i]).2.1 from if_pos (hon i hi),show qH5 s (qcz s (qvm l o) i) (qvm l o)[i]=qBH (qcq s (qcz s (qvm l o) i) (qvm l o)[i])from if_pos (hon i hi),←qtA hi]at this
  exact this
 have c3:∀i (hi:i<(qvm l o).length),Contract Tryz.prog 50 [.agg (encSite s),.agg (qag (qcz s (qvm l o) i)),.agg (encCut (qvm l o)[i])] (.ret (.agg (qag (qcz s (qvm l o) (i+1))))):=fun i hi=>by
  rw[qe1 hi]
  exact qgx s ok.bed _ (hbed i) _ (hLc i hi)
 have hea:∀i (hi:i<(qvm l o).length),qfg s (qcz s (qvm l o) i) (qvm l o)[i]=none→qBH (qcq s (qcz s (qvm l o) i) (qvm l o)[i])=0:=fun i hi h=>qNe ok (hbed i) (hLc i hi) h
 have hps:=qNa ok (by omega) hLc
 have hpe:∀i,i<(qvm l o).length→0≤prE s (qvm l o) i∧prE s (qvm l o) i≤40000000000000000:=fun i hi=>by
  rw[qtA hi];exact qM9 ok (hbed i) (by rw[hblen];omega) (hLc i hi)
 have hsu:∀i,prS s (qvm l o) (i+1)=prS s (qvm l o) i+prE s (qvm l o) i:=fun i=>rfl
 have has:∀i (hi:i<(qvm l o).length),Ord.qMG (qaq s l) 0 (o.take (i+1))=(Ord.qMG (qaq s l) 0 (o.take i)&&(qfg s (qcz s (qvm l o) i) (qvm l o)[i]).isNone):=fun i hi=>qM2 hlc hO (by omega) hi
 have hsame:qcz s (qvm l o) (qvm l o).length=qcz s l l.length:=by rw[hLl];exact qNc hlc hO hOl
 have hcst:prS s (qvm l o) (qvm l o).length=Ord.ql1 (qaK s l) 0 o:=qNn hlc hO
 have hfull:Ord.qMG (qaq s l) 0 (o.take (qvm l o).length)=true→o∈Ord.ordL l.length (qaq s l) l.length 0:=fun h=>hacc.2 ⟨hOl,hO.lt,by rw[hLl,List.take_length]at h;exact h⟩
 have hsg:Contract Tryz.prog 49 [.agg (qag (qcz s l l.length)),.agg (qag (qcz s l l.length))] (.ret (.bool true)):=by
  have:=c32 (qcz s l l.length) (qcz s l l.length) (by rw[(qgE ok hlc l.length).len ok.bed];omega)
  rw[show qxb (qcz s l l.length) (qcz s l l.length)=true by simp[qxb,qbR]]at this
  exact this
 have hL5:(qvm l o).length≤5:=by omega
 have hRc:∀p,p∈Ord.ordL l.length (qaq s l) l.length 0→IsO l.length p∧p.length=l.length:=fun p hp=>qDD hp
 have hRr:∀p (hp:p∈Ord.ordL l.length (qaq s l) l.length 0) i (hi:i<p.length) (hk:p[i]<l.length),Contract Tryz.prog 28 [.agg (encSite s),.agg (qag (qcz s (qvm l p) i)),.agg (encCut l[p[i]])] (.ret (.tup [.agg [.int .i64 0,.int .i64 0,.int .i64 0],.bool false,.int .i64 0])):=fun p hp i hi hk=>by
  obtain⟨x1,x2⟩:=qDD hp
  have hpl:=qtH (l:=l) x1.lt
  have e:=qMx (l:=l) x1.lt hi (by omega)
  have hb:OkBed s (qcz s (qvm l p) i):=qgE ok (qME hlc x1.lt) i
  have ho:onE s (qcz s (qvm l p) i) l[p[i]]=0:=qIo (qIn hall hk) hb
  have hn:=qM3 hlc hp hi (by omega)
  rw[e]at hn
  have:=qMz s hz (by omega) (qcz s (qvm l p) i) (by rw[hb.len ok.bed];omega) l[p[i]]
  rw[show qNi s (qcz s (qvm l p) i) l[p[i]]=qfg s (qcz s (qvm l p) i) l[p[i]]from if_pos ho,ho,hn]at this
  exact this
 have hRl:∀p (hp:p∈Ord.ordL l.length (qaq s l) l.length 0) i (hi:i<p.length) (hk:p[i]<l.length),Contract Tryz.prog 50 [.agg (encSite s),.agg (qag (qcz s (qvm l p) i)),.agg (encCut l[p[i]])] (.ret (.agg (qag (qcz s (qvm l p) (i+1))))):=fun p hp i hi hk=>by
  obtain⟨x1,x2⟩:=qDD hp
  have hpl:=qtH (l:=l) x1.lt
  have e:=qMx (l:=l) x1.lt hi (by omega)
  have hb:OkBed s (qcz s (qvm l p) i):=qgE ok (qME hlc x1.lt) i
  rw[qe1 (by omega),e]
  exact qgx s ok.bed _ hb _ (hlc _ hk)
 have ec:qvo s l=match Ord.planO l.length (qaq s l) (fun _ _=>0) l.length 0 with
   |none=>([],qdg l.length (qaq s l) (2^l.length),11)
   |some _=>(Ord.qbn l.length (qaq s l) (fun _ _=>0) l.length 0,[],0):=by unfold qvo;rw[if_neg (not_not_intro hall),if_neg (by omega)];rfl
 have ec2:qtM s l=match Ord.planO l.length (qaq s l) (qaK s l) l.length 0 with
   |none=>([],0,11)
   |some c=>(Ord.qbn l.length (qaq s l) (qaK s l) l.length 0,c,0):=by unfold qtM;rw[if_neg (not_not_intro hall),if_neg (by omega)];rfl
 rw[ec2]at a7
 have hp8:=qy6 (n:=l.length) (by omega)
 obtain⟨acc,hac⟩:∃acc:Nat→Bool,∀i,Ord.qMG (qaq s l) 0 (o.take i)=acc i:=⟨_,fun _=>rfl⟩
 simp only[hac]at has hfull
 have hac0:acc 0=true:=(hac 0).symm
 obtain⟨P,pl,e,hq,hcase⟩:∃(P:List Nat) (pl:List (Nat×List Int)) (e:Int),qvo s l=(P,pl,e)∧((e=11∧P=[]∧acc (qvm l o).length=false∧Contract Tryz.prog 56 [.agg (encSite s),.sl (l.map encCut),.sl (pl.map qhL)] (.ret (.int .i64 0)))∨
   (e=0∧pl=[]∧P∈Ord.ordL l.length (qaq s l) l.length 0∧Contract Tryz.prog 56 [.agg (encSite s),.sl (l.map encCut),.sl []] (.ret (.int .i64 21))∧∃(path:List Nat) (c:Int),Contract Tryz.prog 33 [.agg (encSite s),.sl (l.map encCut)] (.ret (.tup [.sl (path.map qcx),.int .i64 c,.int .i64 0]))∧(acc (qvm l o).length=true→c≤prS s (qvm l o) (qvm l o).length))):=by
  rcases Ord.qNk (n:=l.length) (R:=qaq s l) (m:=l.length) (s:=0)with⟨hp,he⟩|⟨hp,hA,hpa⟩
  ·rw[hp]at ec
   refine⟨_,_,_,ec,.inl ⟨rfl,rfl,?_,?_⟩⟩
   ·rw[Bool.eq_false_iff]
    intro h
    have:=hfull h
    rw[he]at this
    cases this
   ·have hpl:=qyK (n:=l.length) (R:=qaq s l) (m:=2^l.length)
    have hrw:=qMN (n:=l.length) (R:=qaq s l) (m:=2^l.length)
    have b5:=qmw s hz (by omega) (by omega) l hl (toI (qdg l.length (qaq s l) (2^l.length))) (by simp only[toI,List.length_map];omega) fun x hx=>by rw[hrw x hx];omega
    rw[if_neg (not_not_intro hall),if_neg (by omega),qtY (qMT he),if_pos rfl,qNd]at b5
    exact b5
  ·rw[hp]at ec
   refine⟨_,_,_,ec,.inr ⟨rfl,rfl,?_,?_,?_⟩⟩
   ·rw[hpa];exact List.getElem_mem hA
   ·have b5:=qmw s hz (by omega) (by omega) l hl [] (by simp) fun x hx=>by cases hx
    rw[if_neg (not_not_intro hall),if_neg (by omega),qrO (fun h=>absurd h.ne (by simp)),if_neg (by simp)]at b5
    exact b5
   ·cases hp2:Ord.planO l.length (qaq s l) (qaK s l) l.length 0 with
    |none=>
     rw[Ord.qMY.1 hp2]at hA
     simp at hA
    |some c=>
     rw[hp2]at a7
     exact⟨_,c,a7,fun h=>by rw[hcst];exact Ord.qNj hp2 (hfull h)⟩
 rw[hq]at a1
 dsimp only at a1
 clear hq ec ec2 a7 hfull hcst hac
 generalize qvm l o=L at*
 refine zT mix Tryz.func18 Tryz.ntmps18 Tryz.results18 rfl rfl rfl ?_;simp only[qab,Nat.reduceAdd]
 repeat'(first|refine zQ ?_|refine zF h0 ?_|refine zF h1 ?_|refine zF h2 ?_|refine zF a2 ?_|refine zF a1 ?_|refine zF a3 ?_|refine zF a4 ?_|refine zF a5 ?_|fail)
 all_goals first|(exfalso;omega)|(exfalso;simp at *;done)|skip
 refine qad L.length (fun i=>⟨[(14,.int .i64 i),(13,.op 1 0 0),(12,.bool (acc i)),(11,.int .i64 (prS s L i)),(10,.sl (L.map encCut)),(7,.sl (P.map qcx)),(8,.sl (pl.map qhL)),(9,.int .i64 e),(1,.sl (l.map encCut)),(3,.op 0 0 0)],[(0,⟨12,true,[encSite s]⟩),(1,⟨6,false,[qag (qcz s L i)]⟩)],64,213⟩) (fun i=>True) ?_ trivial ?_
 ·simp only[Nat.reduceAdd,Nat.reduceMul]
  exact qaa (nx:=64) (k:=0) (ns:=[]) (ks:=[14,13,12,11,10,7,8,9,1,3]) [(0,0),(1280,1)] rfl (by simp) (by simp only[hac0];kernel_rfl)
 intro i hi _
 by_cases hL:i<L.length
 ·have d1:=c1 i hL
  have d2:=c2 i hL
  have d3:=c3 i hL
  have x1:=hps i hi
  have x2:=hpe i hL
  have hsi:=hsu i
  have hai:=has i hL
  have hei:=hea i hL
  obtain⟨va,vb,vc,hv⟩:=qMO (qfg s (qcz s L i) L[i])
  rw[hv]at d1
  generalize qcz s L (i+1)=g2 at*
  generalize prS s L (i+1)=p2 at*
  generalize acc (i+1)=b2 at*
  generalize qBH (qcq s (qcz s L i) L[i])=ex at*
  generalize qfg s (qcz s L i) L[i]=r at*
  generalize prE s L i=pe at*
  generalize prS s L i=p1 at*
  generalize qcz s L i=g1 at*
  subst hsi
  cases hb:acc i with
  |false=>
   rw[hb]at hai
   obtain rfl:b2=false:=by rw[hai];rfl
   generalize r.isSome=is at*
   repeat'(first|((with_reducible apply(qaS 12 [[9,10],[10],[]]));decide +kernel;rfl)|(with_reducible apply qaR)|(with_reducible apply qav)|(with_reducible apply qas)|(with_reducible apply qby)|(with_reducible apply qaA)|(with_reducible apply qcv)|(with_reducible apply qaw)|((with_reducible apply qa9);rfl;(intro id'))|((with_reducible apply qaT);rfl)|refine zS ?_|refine zA ?_|refine zF d1 ?_|refine zF d2 ?_|refine zF d3 ?_|(refine zI ?_;intro hlt)|(refine zC ?_ ?_<;>first|intro h|simp)|fail)
   all_goals first
    |exact absurd hL (by omega)
    |(exfalso;omega)
    |(exfalso;simp at *;done)
    |exact⟨hL,trivial,qaa (nx:=64) (k:=0) (ns:=[]) (ks:=[14,13,12,11,10,7,8,9,1,3]) [(0,0),(1,1)] rfl (by simp) (by kernel_rfl)⟩
    |trace_state
  |true=>
   rw[hb]at hai
   cases r with
   |none=>
    obtain rfl:b2=true:=by rw[hai];rfl
    obtain rfl:ex=0:=hei rfl
    repeat'(first|((with_reducible apply(qaS 12 [[9,10],[10],[]]));decide +kernel;rfl)|(with_reducible apply qaR)|(with_reducible apply qav)|(with_reducible apply qas)|(with_reducible apply qby)|(with_reducible apply qaA)|(with_reducible apply qcv)|(with_reducible apply qaw)|((with_reducible apply qa9);rfl;(intro id'))|((with_reducible apply qaT);rfl)|refine zS ?_|refine zA ?_|refine zF d1 ?_|refine zF d2 ?_|refine zF d3 ?_|(refine zI ?_;intro hlt)|(refine zC ?_ ?_<;>first|intro h|simp)|fail)
    all_goals first
     |exact absurd hL (by omega)
     |(exfalso;omega)
     |(exfalso;simp at *;done)
     |exact⟨hL,trivial,qaa (nx:=64) (k:=0) (ns:=[]) (ks:=[14,13,12,11,10,7,8,9,1,3]) [(0,0),(1,1)] rfl (by simp) (by kernel_rfl)⟩
     |trace_state
   |some v=>
    obtain rfl:b2=false:=by rw[hai];rfl
    repeat'(first|((with_reducible apply(qaS 12 [[9,10],[10],[]]));decide +kernel;rfl)|(with_reducible apply qaR)|(with_reducible apply qav)|(with_reducible apply qas)|(with_reducible apply qby)|(with_reducible apply qaA)|(with_reducible apply qcv)|(with_reducible apply qaw)|((with_reducible apply qa9);rfl;(intro id'))|((with_reducible apply qaT);rfl)|refine zS ?_|refine zA ?_|refine zF d1 ?_|refine zF d2 ?_|refine zF d3 ?_|(refine zI ?_;intro hlt)|(refine zC ?_ ?_<;>first|intro h|simp)|fail)
    all_goals first
     |exact absurd hL (by omega)
     |(exfalso;omega)
     |(exfalso;simp at *;done)
     |exact⟨hL,trivial,qaa (nx:=64) (k:=0) (ns:=[]) (ks:=[14,13,12,11,10,7,8,9,1,3]) [(0,0),(1,1)] rfl (by simp) (by kernel_rfl)⟩
     |trace_state
 obtain rfl:i=L.length:=by omega
 rw[hsame]
 rcases hcase with⟨rfl,rfl,hac1,b5⟩|⟨rfl,rfl,hP,b5,path,c,b6,b7⟩
 ·rw[hac1]
  repeat'(first|((with_reducible apply(qaS 12 [[9,10],[10],[]]));decide +kernel;rfl)|refine zS ?_|refine zA ?_|refine zF a6 ?_|refine zF hsg ?_|refine zF b5 ?_|(refine zI ?_;intro hlt)|(refine zC ?_ ?_<;>first|intro h|simp)|refine zE ?_|fail)
  all_goals first
   |rfl
   |exact absurd (show L.length<L.length by omega) hL
   |(exfalso;omega)
   |(exfalso;simp at *;done)
   |trace_state
 obtain⟨hPi,hPl⟩:=hRc P hP
 have hr1:=hRr P hP
 have hr2:=hRl P hP
 generalize qvm l P=Q at*
 repeat'(first|((with_reducible apply(qaS 12 [[9,10],[10],[]]));decide +kernel;rfl)|refine zS ?_|refine zA ?_|refine zF a6 ?_|refine zF hsg ?_|refine zF b5 ?_|refine zF a5 ?_|(refine zI ?_;intro hlt)|(refine zC ?_ ?_<;>first|intro h|simp)|(refine zG ?_ ?_<;>first|intro h|simp)|fail)
 all_goals first
  |exact absurd (show L.length<L.length by omega) hL
  |(exfalso;omega)
  |(exfalso;simp at *;done)
  |skip
 have hPt:=hps L.length (Nat.le_refl _)
 generalize prS s L L.length=pT at*
 generalize acc L.length=ac at*
 refine qad P.length (fun i=>⟨[(20,.int .i64 i),(13,.op 1 0 0),(7,.sl (P.map qcx)),(12,.bool ac),(11,.int .i64 pT),(1,.sl (l.map encCut)),(3,.op 0 0 0)],[(0,⟨12,true,[encSite s]⟩),(1,⟨6,false,[qag (qcz s Q i)]⟩)],64,213⟩) (fun i=>True) ?_ trivial ?_
 ·exact qaa (nx:=64) (k:=0) (ns:=[]) (ks:=[20,13,7,12,11,1,3]) [(0,0),(1,1)] rfl (by simp) (by kernel_rfl)
 intro i hi _
 by_cases hI:i<P.length
 ·have hk:=hPi.lt _ (List.getElem_mem hI)
  have e1:=hr1 i hI hk
  have e2:=hr2 i hI hk
  repeat'(first|((with_reducible apply(qaS 15 [[12,13],[13],[]]));decide +kernel;rfl)|(with_reducible apply qaR)|(with_reducible apply qav)|(with_reducible apply qas)|(with_reducible apply qby)|(with_reducible apply qaA)|(with_reducible apply qcv)|(with_reducible apply qaw)|((with_reducible apply qa9);rfl;(intro id'))|((with_reducible apply qaT);rfl)|refine zS ?_|refine zA ?_|refine zF e1 ?_|refine zF e2 ?_|(refine zI ?_;intro hlt)|(refine zC ?_ ?_<;>first|intro h|simp)|fail)
  all_goals first
   |exact absurd hI (by omega)
   |(exfalso;omega)
   |(exfalso;simp at *;done)
   |exact⟨hI,trivial,qaa (nx:=64) (k:=0) (ns:=[]) (ks:=[20,13,7,12,11,1,3]) [(0,0),(1,1)] rfl (by simp) (by kernel_rfl)⟩
   |trace_state
 ·cases ac with
  |false=>
   repeat'(first|((with_reducible apply(qaS 15 [[12,13],[13],[]]));decide +kernel;rfl)|(with_reducible rfl)|refine zS ?_|refine zA ?_|refine zF b6 ?_|(refine zI ?_;intro hlt)|(refine zC ?_ ?_<;>first|intro h|simp)|refine zE ?_|fail)
   all_goals first
    |rfl
    |exact absurd (by assumption) hI
    |(exfalso;omega)
    |(exfalso;simp at *;done)
    |trace_state
  |true=>
   have b8:=b7 rfl
   repeat'(first|((with_reducible apply(qaS 15 [[12,13],[13],[]]));decide +kernel;rfl)|refine zS ?_|refine zA ?_|refine zF b6 ?_|(refine zI ?_;intro hlt)|(refine zC ?_ ?_<;>first|intro h|simp)|refine zE ?_|fail)
   all_goals first
    |rfl
    |exact absurd (by assumption) hI
    |(exfalso;omega)
    |(simp;omega)
    |(exfalso;simp at *;done)
    |trace_state
end Go.Pv.Soil

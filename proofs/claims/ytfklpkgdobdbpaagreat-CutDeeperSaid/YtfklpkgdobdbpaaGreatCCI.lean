import Derived.Test.YtfklpkgdobdbpaaGreatCCB
import Derived.Test.YtfklpkgdobdbpaaGreatCCD
/- Part of the proofs over YtfklpkgdobdbpaaGreat: PyL, N79, N74. -/
set_option linter.unusedVariables false
set_option linter.unusedSimpArgs false
set_option linter.unnecessarySimpa false
namespace Go.Pv
section
variable {P:Program}{K:X→St→Prop}{env:Env}{hp:Hp}{nx n id:Nat}{s:Tmp}{x y:Operand}{t:TypeId}
theorem qLx{α:Type}{f:α→List D}{e k b:Nat}{l:List α}[hs:TSlice P t e k](hf:qiH f k)(h1:qab env x=.os b 0 0)(h2:qab env y=.sl (l.map f))(hb:lkH hp b=some ⟨0,true,[]⟩)
  (hz:qiY P e=true) (hby:Nat.ble (P.bytesOf e) 4096=true) (hn:l.length≤1000000000) (hd:qai n (some s)=true)
  (hk:K .normal ⟨(s,.os b 0 l.length)::qft b env,(b,⟨k,true,l.map f⟩)::qgG b hp,nx,n⟩):qan P (.call {callee:=.builtin .append,args:= #[x,y],argTypes:= #[t,t]}) id (some s) ⟨env,hp,nx,n⟩ K:=by
 have hby':P.bytesOf e≤4096:=Nat.le_of_ble_eq_true hby
 have hap:qcw P (lkH hp) t (qab env x) (qab env y)=some (some b,⟨k,true,l.map f⟩):=by
  have ho:qaR (lkH hp) (.os b 0 0)=some []:=by simp[qaR,hb]
  unfold qcw
  rw[hs.u,h1,h2]
  have hx:qaR (lkH hp) (.sl (l.map f))=some (l.map f):=rfl
  simp only[hx,ho,Option.bind_some]
  have hmul:l.length*P.bytesOf e≤140737488355328:=by
   have:=Nat.mul_le_mul hn hby'
   omega
  rw[if_pos]
  ·rw[hb]
   simp only[Option.bind_some]
   rw[if_pos]
   ·simp[hs.c,qeV hf]
   ·refine⟨.inr (by trivial),fun r hr c hc=>?_⟩
    simp only[List.nil_append]at hr
    obtain⟨a,_,rfl⟩:=List.mem_map.1 hr
    exact qnJ (List.all_eq_true.1 (hf a).2.1 c hc)
  ·refine⟨by rw[hs.c];exact hs.p,fun r hr=>?_,fun r hr c hc=>?_,by simpa using hmul,by simp;omega,hz,rfl⟩
   ·obtain⟨a,_,rfl⟩:=List.mem_map.1 hr
    rw[(hf a).1,hs.c]
   ·obtain⟨a,_,rfl⟩:=List.mem_map.1 hr
    exact List.all_eq_true.1 (hf a).2.2 c hc
 refine qfT hap hd ?_
 have e:(⟨k,true,l.map f⟩:Blk).rows.length=l.length:=by simp
 rw[e]
 exact hk
end
end Go.Pv
open Go Go.Proofs Go.Pv
set_option maxHeartbeats 8000000
set_option maxRecDepth 100000
set_option linter.unusedSimpArgs false
set_option linter.unusedVariables false
namespace Go.Pv.Soil
def qKE(x y:Int)(d:Dred):Dred:=⟨d.name,d.kind,min (d.depth+x) 10000,d.across,d.along,min (d.bite+y) 10000,d.hour,d.outs⟩
def qKp(x y:Int)(s:Site):Site:=⟨s.bed,s.ground,[],s.quays,s.gauges,s.dreds.map (qKE x y)⟩
theorem qKT(x y:Int)(s:Site)(n:ByteArray):qcT (qKp x y s) n=qcT s n:=by
 unfold qcT qci
 rw[show(qKp x y s).dreds=s.dreds.map (qKE x y)from rfl,List.findIdx?_map]
 rfl
theorem qLh(x y:Int)(s:Site){n:ByteArray}(h:0≤qcT s n):dredOf (qKp x y s) n=qKE x y (dredOf s n):=by
 obtain⟨hk,e⟩:=qcc h
 rw[e]
 unfold dredOf
 rw[qKT,show(qKp x y s).dreds=s.dreds.map (qKE x y)from rfl,List.getElem?_map,List.getElem?_eq_getElem hk]
 exact if_pos h
theorem qLI{x y:Int}(hx:0≤x)(hy:0≤y){d:Dred}(h:qet d=0):qet (qKE x y d)=0:=by
 unfold qet at h ⊢
 split at h
 ·cases h
 split at h
 ·cases h
 split at h
 ·cases h
 rename_i h1 h2 h3
 rw[if_neg (show ¬qaS (qKE x y d).name=false from h1),if_neg,if_neg (show ¬8<(qKE x y d).outs.length from h3)]
 ·exact h
 ·refine not_not_intro ?_
  obtain⟨a,b,c,e,f,g⟩:=Classical.not_not.1 h2
  refine⟨a,?_,?_,e,f,g⟩
  ·show 1≤min (d.depth+x) 10000∧min (d.depth+x) 10000≤10000
   omega
  ·show 1≤min (d.bite+y) 10000∧min (d.bite+y) 10000≤10000
   omega
theorem qLi{x y:Int}(hx:0≤x)(hy:0≤y){g:List Soil}{l:List Dred}(h:qen g l=0):qen g (l.map (qKE x y))=0:=by
 unfold qen at h ⊢
 split at h
 ·cases h
 rename_i h6
 rw[List.length_map,if_neg h6]
 have h1:=qdq h
 refine qaB fun i hi=>?_
 have h2:=h1 i hi
 simp only[qlo,List.getElem?_eq_getElem hi]at h2
 simp only[qlo,List.getElem?_map,List.getElem?_eq_getElem hi,Option.map_some,←List.map_take,List.any_map]
 split at h2
 ·exact absurd h2 (by assumption)
 rename_i h3
 rw[if_neg (not_not_intro (qLI hx hy (Classical.not_not.1 h3)))]
 exact h2
theorem qLj(x y:Int)(s:Site):qdV (qKp x y s)=qdV s:=by
 funext c
 unfold qdV
 rw[qKT]
 rfl
theorem qLJ{x y:Int}(hx:0≤x)(hy:0≤y){s:Site}(h:qfn s=0):qfn (qKp x y s)=0:=by
 rw[qhX]at h ⊢
 split at h
 ·exact absurd h (by assumption)
 split at h
 ·exact absurd h (by assumption)
 split at h
 ·exact absurd h (by assumption)
 split at h
 ·exact absurd h (by assumption)
 split at h
 ·exact absurd h (by assumption)
 rename_i h1 h2 h3 h4 h5
 rw[if_neg (show ¬qa8 (qKp x y s).bed≠0 from h1),if_neg (show ¬qaI (qKp x y s).ground≠0 from h2),if_neg (show ¬qdT (qKp x y s).zones≠0 from not_not_intro rfl),if_neg (show ¬qdU (qKp x y s).quays≠0 from h4),if_neg (show ¬qb3 (qKp x y s).gauges≠0 from h5)]
 exact qLi hx hy h
theorem qMh{x y:Int}(hx:0≤x)(hy:0≤y){s:Site}{l:List Cut}(h:qde s l=0):qde (qKp x y s) l=0:=by
 unfold qde at h ⊢
 split at h
 ·contradiction
 rename_i h1
 rw[if_neg (not_not_intro (qLJ hx hy (Classical.not_not.1 h1)))]
 unfold qlp at h ⊢
 rw[qLj]
 exact h
theorem qMF{x y:Int}(hx:0≤x)(hy:0≤y){s:Site}{b:Grid}{c:Cut}(hI:0≤qcT s c.dredger)(hd:(dredOf s c.dredger).depth≤10000∧(dredOf s c.dredger).bite≤10000)(h:Passes s b c):Passes (qKp x y s) b c:=by
 have e:=qLh x y s hI
 have e1:qbR (qKp x y s) b c=qbR s b c:=by unfold qbR;rw[e];rfl
 have e2:qqo (qKp x y s) b c=qqo s b c:=by unfold qqo;rw[e1]
 refine⟨?_,h.unk,fun _ _=>rfl,fun i hi=>?_,fun i hi=>?_,?_,fun i hi=>?_,h.quay,h.steep⟩
 ·rw[e];exact h.form
 ·have:=h.deep i hi
  rw[e]
  unfold qqf at this ⊢
  rw[decide_eq_false_iff_not]at this ⊢
  show ¬min ((dredOf s c.dredger).bite+y) 10000<_
  omega
 ·have:=h.lack i hi
  unfold qni qd5 at this ⊢
  rw[e];exact this
 ·rw[e1];exact h.time
 ·have:=h.reach i hi
  rw[e2]
  unfold qcG at this ⊢
  rw[e]
  split at this
  ·rename_i h1
   rw[if_pos (show qe2 (qKp x y s).gauges (qap (qKp x y s).bed i).x c.start (qqo s b c)from h1)]
   split at this
   ·rename_i h2
    rw[if_pos]
    show _≤min ((dredOf s c.dredger).depth+x) 10000
    have h2':(qer (qKp x y s).gauges (qap (qKp x y s).bed i).x c.start (qqo s b c)).2-c.level≤(dredOf s c.dredger).depth:=h2
    omega
   ·cases this
  ·cases this
theorem qMi:qiH encDred 8:=fun _=>⟨rfl,rfl,rfl⟩
def qKM(x y:Int)(l:List Dred)(i:Nat):List Dred:=l.mapIdx fun j d=>if j<i then qKE x y d else d
theorem qKs(x y:Int)(l:List Dred)(i:Nat):(qKM x y l i).length=l.length:=List.length_mapIdx
theorem qKU{x y:Int}{l:List Dred}{i j:Nat}(hj:j<l.length)(h:j<(qKM x y l i).length):(qKM x y l i)[j]=if j<i then qKE x y l[j]else l[j]:=List.getElem_mapIdx
theorem qMu{x y:Int}{l:List Dred}{i:Nat}(hi:i<l.length)(h:i<(qKM x y l i).length):(qKM x y l i)[i]=l[i]:=by
 rw[qKU hi,if_neg (by omega)]
theorem qMJ(x y:Int)(l:List Dred):qKM x y l 0=l:=by
 refine List.ext_getElem (qKs x y l 0) fun j h1 h2=>?_
 rw[qKU h2,if_neg (by omega)]
theorem qMv(x y:Int)(l:List Dred):qKM x y l l.length=l.map (qKE x y):=by
 refine List.ext_getElem (by rw[qKs,List.length_map]) fun j h1 h2=>?_
 rw[qKs]at h1
 rw[qKU h1,if_pos h1,List.getElem_map]
theorem qMw{x y:Int}{l:List Dred}{i:Nat}(hi:i<l.length)(a:Dred):((qKM x y l i).set i a).set i (qKE x y l[i])=qKM x y l (i+1):=by
 rw[List.set_set]
 refine List.ext_getElem (by rw[List.length_set,qKs,qKs]) fun j h1 h2=>?_
 rw[qKs]at h2
 rw[List.getElem_set]
 split
 ·rename_i e
  subst e
  rw[qKU h2,if_pos (by omega)]
 ·rename_i e
  rw[qKU h2,qKU h2]
  by_cases hj:j<i
  ·rw[if_pos hj,if_pos (by omega)]
  ·rw[if_neg hj,if_neg (by omega)]
theorem qLZ{h:Nat→Option Blk}{b len k:Nat}{rows:List (List D)}{i1 i2 i3 i4 i5 j1 j2 j3 j4 j5 k1 k2 k3 k4 k5 k6:Int}{r1 r2 r3 r4 r5 q1:List (List D)}{s1 s2:ByteArray}(hb:h b=some ⟨k,true,rows⟩)(hl:rows.length=len):
  qbQ h 64 [.agg [.int .i64 i1,.int .i64 i2,.int .i64 i3,.int .i64 i4,.int .i64 i5,.sl r1,.sl r2,.sl r3,.nilsl,.sl r4,.sl r5,.os b 0 len],.agg [.int .i64 j1,.int .i64 j2,.int .i64 j3,.int .i64 j4,.int .i64 j5,.sl q1],.agg [.str s1,.str s2,.int .i64 k1,.int .i64 k2,.int .i64 k3,.int .i64 k4,.int .i64 k5,.int .i64 k6]]=
   some [.agg [.int .i64 i1,.int .i64 i2,.int .i64 i3,.int .i64 i4,.int .i64 i5,.sl r1,.sl r2,.sl r3,.sl [],.sl r4,.sl r5,.sl rows],.agg [.int .i64 j1,.int .i64 j2,.int .i64 j3,.int .i64 j4,.int .i64 j5,.sl q1],.agg [.str s1,.str s2,.int .i64 k1,.int .i64 k2,.int .i64 k3,.int .i64 k4,.int .i64 k5,.int .i64 k6]]:=by
 subst hl
 simp[qbQ,pur,hb]
theorem qL0(s:Site)(hw:Wide s)(h100:s.bed.levels.length≤100)(h:¬FitS s)(b:Grid)(c:Cut):∃e:Int,e≠0∧Contract Tryz.prog 28 [.agg (encSite s),.agg (encGrid b),.agg (encCut c)] (.ret (.tup [.agg [.int .i64 0,.int .i64 0,.int .i64 0],.bool false,.int .i64 e])):=by
 obtain⟨hne,h1⟩:=qKI s hw h100 h [c] (by simp)
 have h1':Contract Tryz.prog 26 [.agg (encSite s),.sl [encCut c]] (.ret (.int .i64 (qde s [c]))):=h1
 generalize qde s [c]=q at*
 have h2:Contract Tryz.prog 106 [.agg (encSite s),.agg (encGrid b),.agg (encCut c)] (.ret (.int .i64 q)):=by
  refine zT mix Tryz.func106 Tryz.ntmps106 Tryz.results106 rfl rfl rfl ?_;simp only[qac,Nat.reduceAdd]
  repeat'(first|((with_reducible apply qaj);(exact qmW rfl rfl (by simp) rfl);(exact h1');rfl)|(with_reducible rfl)|refine zQ ?_|(refine zC ?_ ?_<;>first|intro h|simp)|refine zE ?_|fail)
  all_goals first|rfl|(exfalso;omega)|trace_state
 refine⟨q,hne,?_⟩
 refine zT mix Tryz.func28 Tryz.ntmps28 Tryz.results28 rfl rfl rfl ?_;simp only[qac,Nat.reduceAdd]
 repeat'(first|refine zQ ?_|refine zF h2 ?_|(refine zC ?_ ?_<;>first|intro h|simp)|refine zE ?_|fail)
 all_goals first|rfl|(exfalso;omega)|trace_state
theorem law_deeper(s:Site)(hw:Wide s)(c:Cut)(m:Int×Int)(hm:(0≤m.1∧m.1≤255)∧(0≤m.2∧m.2≤255)):Contract Tryz.prog 5 [.agg (encSite s),.agg (encCut c),.agg [.int .u8 m.1,.int .u8 m.2]] (.ret (.bool true)):=by
 have h0:=qqr
 have h2:Contract Tryz.prog 21 [.sl [encCut c],.int .i64 1] (.ret (.bool (qxb [c] 1))):=qBO [c] (by simp) 1 (by omega)
 have hlv:=hw.lv
 obtain⟨x,y⟩:=m
 obtain⟨hx,hy⟩:=hm
 dsimp only at hx hy ⊢
 by_cases h100:s.bed.levels.length≤100
 rotate_left
 ·refine zT mix Tryz.func5 Tryz.ntmps5 Tryz.results5 rfl rfl rfl ?_;simp only[qac,Nat.reduceAdd]
  repeat'(first|((with_reducible apply qad);(exact qbD rfl (by simp) rfl);(exact h2);rfl)|(with_reducible rfl)|refine zQ ?_|refine zF h0 ?_|(refine zC ?_ ?_<;>first|intro h|simp)|(refine zG ?_ ?_<;>first|intro h|simp)|refine zE ?_|fail)
  all_goals first|rfl|(exfalso;omega)|(exfalso;simp at *;done)|trace_state
 cases hf:qxb [c] 1 with
 |false=>
  rw[hf]at h2
  refine zT mix Tryz.func5 Tryz.ntmps5 Tryz.results5 rfl rfl rfl ?_;simp only[qac,Nat.reduceAdd]
  repeat'(first|((with_reducible apply qad);(exact qbD rfl (by simp) rfl);(exact h2);rfl)|(with_reducible rfl)|refine zQ ?_|refine zF h0 ?_|(refine zG ?_ ?_<;>first|intro h|simp)|refine zE ?_|fail)
  all_goals first|rfl|(exfalso;omega)|(exfalso;simp at *;done)|trace_state
 |true=>
 rw[hf]at h2
 by_cases hg:FitS s
 rotate_left
 ·obtain⟨e,he,h3⟩:=qL0 s hw h100 hg s.bed c
  refine zT mix Tryz.func5 Tryz.ntmps5 Tryz.results5 rfl rfl rfl ?_;simp only[qac,Nat.reduceAdd]
  repeat'(first|((with_reducible apply qad);(exact qbD rfl (by simp) rfl);(exact h2);rfl)|(with_reducible rfl)|refine zQ ?_|refine zF h0 ?_|refine zF h3 ?_|(refine zG ?_ ?_<;>first|intro h|simp)|refine zE ?_|fail)
  all_goals first|rfl|(exfalso;omega)|(exfalso;simp at *;done)|trace_state
 have hz:=hg.z
 have a1:=qwp s hz hg.d s.bed h100 c
 by_cases hon:onE s s.bed c=0
 rotate_left
 ·have e:qBt s s.bed c=none:=by unfold qBt;rw[if_neg hon]
  rw[e]at a1
  generalize onE s s.bed c=q at*
  refine zT mix Tryz.func5 Tryz.ntmps5 Tryz.results5 rfl rfl rfl ?_;simp only[qac,Nat.reduceAdd]
  repeat'(first|((with_reducible apply qad);(exact qbD rfl (by simp) rfl);(exact h2);rfl)|(with_reducible rfl)|refine zQ ?_|refine zF h0 ?_|refine zF a1 ?_|(refine zG ?_ ?_<;>first|intro h|simp)|refine zE ?_|fail)
  all_goals first|rfl|(exfalso;omega)|(exfalso;simp at *;done)|trace_state
 rw[show qBt s s.bed c=qiO s s.bed c from if_pos hon,hon]at a1
 obtain⟨hall,ok,hc,hbed⟩:=qk0 hon
 cases hr:qiO s s.bed c with
 |some v=>
  rw[hr]at a1
  obtain⟨r,k⟩:=v
  refine zT mix Tryz.func5 Tryz.ntmps5 Tryz.results5 rfl rfl rfl ?_;simp only[qac,Nat.reduceAdd]
  repeat'(first|((with_reducible apply qad);(exact qbD rfl (by simp) rfl);(exact h2);rfl)|(with_reducible rfl)|refine zQ ?_|refine zF h0 ?_|refine zF a1 ?_|(refine zG ?_ ?_<;>first|intro h|simp)|refine zE ?_|fail)
  all_goals first|rfl|(exfalso;omega)|(exfalso;simp at *;done)|trace_state
 |none=>
 rw[hr]at a1
 have hd6:=ok.dreds
 have hdr:OkDred (dredOf s c.dredger):=ok.dredOf hc
 have hP:=qMF (x:=x) (y:=y) hx.1 hy.1 hc.dr ⟨hdr.n.2.1.2,hdr.n.2.2.1.2⟩ (qKA.1 hr)
 have a2:=qwp (qKp x y s) ⟨hz.lv,hz.so,hz.bo,by show([]:List qfD).length≤_;simp,hz.qu,hz.ga,hz.ma,by show(s.dreds.map _).length≤_;rw[List.length_map];exact hz.dr,fun d hd=>by
  obtain⟨d',h',rfl⟩:=List.mem_map.1 hd
  exact hz.ou d' h'⟩ (by show(s.dreds.map _).length<_;rw[List.length_map];exact hg.d) s.bed h100 c
 have hon2:onE (qKp x y s) s.bed c=0:=by
  unfold onE
  rw[if_neg (not_not_intro (qMh hx.1 hy.1 hall)),if_neg (not_not_intro hbed.er),if_pos]
  exact hbed.al
 rw[show qBt (qKp x y s) s.bed c=qiO (qKp x y s) s.bed c from if_pos hon2,hon2,qKA.2 hP]at a2
 refine zT mix Tryz.func5 Tryz.ntmps5 Tryz.results5 rfl rfl rfl ?_;simp only[qac,Nat.reduceAdd]
 repeat'(first|((with_reducible apply qad);(exact qbD rfl (by simp) rfl);(exact h2);rfl)|(with_reducible rfl)|refine zQ ?_|refine zF h0 ?_|refine zF a1 ?_|(refine zG ?_ ?_<;>first|intro h|simp)|refine zE ?_|fail)
 all_goals first|(exfalso;omega)|(exfalso;simp at *;done)|skip
 refine qLx (f:=encDred) (l:=s.dreds) qMi rfl rfl rfl (by kernel_rfl) (by kernel_rfl) (by omega) rfl ?_
 repeat'(first|refine zQ ?_|fail)
 refine qaf s.dreds.length (fun i=>⟨[(11,.int .i64 i),(10,.op 1 0 0),(5,.op 2 0 0),(4,.op 3 0 0),(3,.op 0 0 0)],[(0,⟨12,true,[encSite s]⟩),(1,⟨12,false,[[.int .i64 s.bed.x,.int .i64 s.bed.y,.int .i64 s.bed.side,.int .i64 s.bed.cols,.int .i64 s.bed.rows,.sl (s.bed.levels.map qak),.sl (s.ground.soils.map qaC),.sl (s.ground.borings.map qbs),.nilsl,.sl (s.quays.map qcf),.sl (s.gauges.map qat),.os 4 0 s.dreds.length]]⟩),(4,⟨8,true,(qKM x y s.dreds i).map encDred⟩),(2,⟨2,true,[[.int .u8 x,.int .u8 y]]⟩),(3,⟨8,true,[encCut c]⟩)],160,103⟩) (fun i=>True) ?_ trivial ?_
 ·show qck _ ⟨[(11,.int .i64 ((0:Nat):Int)),(10,.op 1 0 0),(5,.op 2 0 0),(4,.op 3 0 0),(3,.op 0 0 0)],[(0,⟨12,true,[encSite s]⟩),(1,⟨12,false,[[.int .i64 s.bed.x,.int .i64 s.bed.y,.int .i64 s.bed.side,.int .i64 s.bed.cols,.int .i64 s.bed.rows,.sl (s.bed.levels.map qak),.sl (s.ground.soils.map qaC),.sl (s.ground.borings.map qbs),.nilsl,.sl (s.quays.map qcf),.sl (s.gauges.map qat),.os 4 0 s.dreds.length]]⟩),(4,⟨8,true,(qKM x y s.dreds 0).map encDred⟩),(2,⟨2,true,[[.int .u8 x,.int .u8 y]]⟩),(3,⟨8,true,[encCut c]⟩)],160,103⟩
  rw[qMJ]
  exact qaa (nx:=160) (k:=0) (ns:=[]) (ks:=[11,10,5,4,3]) [(0,0),(1152,1),(1280,4),(64,2),(32,3)] rfl (by simp) (by kernel_rfl)
 intro i hi _
 have hml:=qKs x y s.dreds i
 by_cases hL:i<s.dreds.length
 rotate_left
 ·obtain rfl:i=s.dreds.length:=by omega
  repeat'(first|refine zQ ?_|(refine zI ?_;intro hlt)|(refine zC ?_ ?_<;>first|intro h|simp)|fail)
  all_goals try exact absurd (show s.dreds.length<s.dreds.length by omega) hL
  refine qb2 (args':=[.agg (encSite (qKp x y s)),.agg (encGrid s.bed),.agg (encCut c)]) ?_ a2 rfl (zL rfl) rfl ?_
  ·have e:encSite (qKp x y s)=[.int .i64 s.bed.x,.int .i64 s.bed.y,.int .i64 s.bed.side,.int .i64 s.bed.cols,.int .i64 s.bed.rows,.sl (s.bed.levels.map qak),.sl (s.ground.soils.map qaC),.sl (s.ground.borings.map qbs),.sl [],.sl (s.quays.map qcf),.sl (s.gauges.map qat),.sl ((qKM x y s.dreds s.dreds.length).map encDred)]:=by rw[qMv];rfl
   rw[e]
   exact qLZ (b:=4) (k:=8) rfl (by rw[List.length_map,qKs])
  repeat'(first|refine zQ ?_|refine zE ?_|fail)
  all_goals first|rfl|trace_state
 ·have hdi:=ok.dred i hL
  have hdp:=hdi.n.2.1
  have hbt:=hdi.n.2.2.1
  have hmi:=qMu (x:=x) (y:=y) hL (by rw[hml];exact hL)
  have hmd:1≤((qKM x y s.dreds i)[i]'(by rw[hml];exact hL)).depth∧((qKM x y s.dreds i)[i]'(by rw[hml];exact hL)).depth≤10000:=by rw[hmi];exact hdp
  have hset:=fun a=>qMw (x:=x) (y:=y) hL a
  obtain⟨a1,ha1⟩:∃a1:Dred,a1=⟨s.dreds[i].name,s.dreds[i].kind,min (s.dreds[i].depth+x) 10000,s.dreds[i].across,s.dreds[i].along,s.dreds[i].bite,s.dreds[i].hour,s.dreds[i].outs⟩:=⟨_,rfl⟩
  have hl2:i<((qKM x y s.dreds i).set i a1).length:=by rw[List.length_set,hml];exact hL
  have he2:((qKM x y s.dreds i).set i a1)[i]'hl2=a1:=List.getElem_set_self _
  have hm2:1≤(((qKM x y s.dreds i).set i a1)[i]'hl2).bite∧(((qKM x y s.dreds i).set i a1)[i]'hl2).bite≤10000:=by rw[he2,ha1];exact hbt
  have hls:((qKM x y s.dreds i).set i a1).length=s.dreds.length:=by rw[List.length_set,hml]
  repeat'(first|refine zQ ?_|(refine zI ?_;intro hlt)|(refine zC ?_ ?_<;>first|intro h|simp)|fail)
  all_goals try exact absurd hL (by omega)
  refine qaA (f:=encDred) (l:=qKM x y s.dreds i) (a:=a1) rfl rfl rfl (by omega) rfl rfl rfl rfl (zL rfl) (by rw[hmi,ha1];rfl) ?_
  repeat'(first|refine zQ ?_|(refine zI ?_;intro hlt)|fail)
  refine qaA (f:=encDred) (l:=(qKM x y s.dreds i).set i a1) (a:=qKE x y s.dreds[i]) rfl rfl rfl (by omega) rfl rfl rfl rfl (zL rfl) (by rw[he2,ha1];rfl) ?_
  repeat'(first|refine zQ ?_|fail)
  refine⟨hL,trivial,?_⟩
  rw[hset a1]
  exact qaa (nx:=160) (k:=0) (ns:=[]) (ks:=[11,10,5,4,3]) [(0,0),(1,1),(4,4),(2,2),(3,3)] rfl (by simp) (by kernel_rfl)
end Go.Pv.Soil

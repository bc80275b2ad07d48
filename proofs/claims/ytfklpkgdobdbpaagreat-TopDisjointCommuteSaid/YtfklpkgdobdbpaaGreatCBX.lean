import Derived.Test.YtfklpkgdobdbpaaGreatCBS
import Derived.Test.YtfklpkgdobdbpaaGreatCBT
import Derived.Test.YtfklpkgdobdbpaaGreatCBV
import Derived.Test.YtfklpkgdobdbpaaGreatCBW
/- Part of the proofs over YtfklpkgdobdbpaaGreat: N55, N59, N61, N64. -/
set_option linter.unusedVariables false
set_option linter.unusedSimpArgs false
set_option linter.unnecessarySimpa false
open Go Go.Proofs Go.Pv
set_option maxHeartbeats 8000000
set_option maxRecDepth 100000
set_option linter.unusedSimpArgs false
set_option linter.unusedVariables false
namespace Go.Pv.Soil
open Go.Pv.Ord
theorem qpn{P:Program}{K:X→St→Prop}{env:Env}{hp:Hp}{nx n id:Nat}{s:Tmp}{α:Type}{f:α→List D}{k:Nat}{l:List α}{d2 d3:D}{args:List Operand}{ts:Array TypeId}{g:FuncId}{args':List D}(hp':qbQ (lkH hp) 64 (args.map (qab env))=some args')(hc:Contract P g args' (.ret (.tup [.fr k (l.map f),d2,d3])))(hf:qeS f k)(h2:qaU d2=true)(h3:qaU d3=true)(hd:qai n (some s)=true)
  (h:K .normal ⟨(s,.tup [.os id 0 l.length,d2,d3])::env,(id,⟨k,true,l.map f⟩)::hp,nx,n⟩):qan P (.call {callee:=.value (.func g),args:=args.toArray,argTypes:=ts}) id (some s) ⟨env,hp,nx,n⟩ K:=by
 have hw:qdy d2=1:=by cases d2<;>first|(cases h2;done)|rfl
 have hr2:qjk d2=true:=qdm (by cases d2<;>first|(cases h2;done)|rfl)
 have ha2:∀m,adE m d2=(d2,[]):=fun m=>qfV (by cases d2<;>first|(cases h2;done)|rfl)
 have hw3:qdy d3=1:=by cases d3<;>first|(cases h3;done)|rfl
 have hr3:qjk d3=true:=qdm (by cases d3<;>first|(cases h3;done)|rfl)
 have ha3:∀m,adE m d3=(d3,[]):=fun m=>qfV (by cases d3<;>first|(cases h3;done)|rfl)
 refine qbj hp' hc ?_ (by simp[qpq,hw,hw3];simp[qdy]) hd ?_
 ·have:qbJ (.tup [.fr k (l.map f),d2,d3])=true:=by
   simp only[qbJ,List.all_cons,List.all_nil,Bool.and_true,hr2,hr3]
   exact qhG hf l
  rw[this,Bool.or_true]
 ·have e:qaM id (.tup [.fr k (l.map f),d2,d3])=(.tup [.os id 0 l.length,d2,d3],[(id,⟨k,true,l.map f⟩)]):=by
   simp only[qaM,adT,ha2,ha3]
   simp[adE,adC,qez hf]
  rw[e]
  exact h
theorem qDz(set k:Int):Contract Tryz.prog 127 [.int .i64 set,.int .i64 k] (.ret (.int .i64 0)):=by
 refine zT mix Tryz.func127 Tryz.ntmps127 Tryz.results127 rfl rfl rfl ?_;simp only[qac,Nat.reduceAdd]
 repeat'(first|(with_reducible rfl)|refine zQ ?_|refine zE ?_|fail)
theorem qe4{p:Nat→Bool}{r:Int}{l:List Nat}{v:Int×Int}(h:qbI p r l=some v):v.1=r:=by
 unfold qbI at h
 obtain⟨i,_,rfl⟩:=Option.map_eq_some_iff.1 h
 rfl
theorem qtx{e:Nat→Int}{l:List Nat}{v:Int×Int}(h:qfC e l=some v):v.1≠0:=by
 unfold qfC at h
 obtain⟨i,hi,rfl⟩:=Option.map_eq_some_iff.1 h
 have:=List.find?_some hi
 simpa using this
theorem qbB{α:Type}{a b:Option α}{v:α}(h:a.or b=some v):a=some v∨b=some v:=by
 cases a with
 |none=>exact .inr (by simpa using h)
 |some x=>exact .inl (by simpa using h)
theorem qF3{s:Site}{b:Grid}{c:Cut}{v:Int×Int}(h:qiO s b c=some v):v.1≠0:=by
 unfold qiO qeD qhl qmh at h
 rcases qbB h with h|h
 ·rcases qbB h with h|h
  ·split at h
   ·cases h
   ·injection h with h;subst h;exact by simp
  rcases qbB h with h|h
  ·rw[qe4 h];decide
  rcases qbB h with h|h
  ·rw[qe4 h];decide
  rcases qbB h with h|h
  ·rw[qe4 h];decide
  rcases qbB h with h|h
  ·rw[qe4 h];decide
  ·split at h
   ·cases h
   ·injection h with h;subst h;exact by simp
 ·rcases qbB h with h|h
  ·exact qtx h
  rcases qbB h with h|h
  ·rw[qe4 h];decide
  ·obtain⟨x,_,rfl⟩:=Option.map_eq_some_iff.1 h
   simp
theorem qBI(s:Site)(l:List Cut)(hl8:l.length≤8):Contract Tryz.prog 115 [qiS l.length (qbm l.length (qaw s l) (2^l.length)) (qbm l.length (qa6 s l) (2^l.length)),.clo (.func 127) [] []] (.ret (.tup [.fr 1 ((qid l.length (qaw s l) (fun _ _=>0)).1.map qcX),.int .i64 (qid l.length (qaw s l) (fun _ _=>0)).2.1,.bool (qid l.length (qaw s l) (fun _ _=>0)).2.2])):=
 qDy l.length hl8 (qaw s l) (fun _ _=>0) _ 127 [] (fun _ _=>rfl) rfl (fun set k _ _=>qDz set k) (fun s k _ _=>⟨by decide,by decide⟩)
theorem qyS(l:List Int)(h0:0<l.length)(hl:l.length≤1000000000):Contract Tryz.prog 129 [.sl (l.map qak)] (.ret (.fr 1 (l.map qak))):=by
 refine zT mix Tryz.func129 Tryz.ntmps129 Tryz.results129 rfl rfl rfl ?_;simp only[qac,Nat.reduceAdd]
 repeat'(first|refine zQ ?_|fail)
 refine qkp (f:=qak) rfl h0 rfl ?_
 repeat'(first|refine zQ ?_|fail)
 refine qko (f:=qak) qbw rfl rfl rfl (fun _=>rfl) (by kernel_rfl) (by kernel_rfl) hl rfl ?_
 repeat'(first|refine zA ?_|fail)
 exact qg5 rfl rfl rfl rfl
theorem qBJ{P:Program}{env:Env}{hp:Hp}{nx n:Nat}{rv rv2 rv3:ResultVar}{b k len k2:Nat}{rows:List (List D)}{d3:D}(h:qb6 P ⟨env,hp,nx,n⟩ rv=some (.os b 0 len))(hb:lkH hp b=some ⟨k,true,rows⟩)(hlen:rows.length=len)(h2:qb6 P ⟨env,hp,nx,n⟩ rv2=some .nilsl)(h3:qb6 P ⟨env,hp,nx,n⟩ rv3=some d3)(s3:qaU d3=true):qg0 P [rv,rv2,rv3] (.ret (.tup [.fr k rows,.fr k2 [],d3])) .ret ⟨env,hp,nx,n⟩:=by
 subst hlen
 exact⟨_,rfl,.inl ⟨[.blk b,.nil,.pure],[.os b 0 rows.length,.nilsl,d3],[.fr k rows,.fr k2 [],d3],by simp[h,h2,h3],by simp[qbq],⟨⟨⟨k,true,rows⟩,rows,rfl,hb,rfl,by simp⟩,⟨rfl,k2,rfl⟩,qc5 (m:=63) s3,trivial⟩,rfl,fun h=>by simp at h⟩⟩
theorem qBK{P:Program}{env:Env}{hp:Hp}{nx n:Nat}{rv rv2 rv3:ResultVar}{k b2 k2 len2:Nat}{rows2:List (List D)}{d3:D}(h:qb6 P ⟨env,hp,nx,n⟩ rv=some .nilsl)(h2:qb6 P ⟨env,hp,nx,n⟩ rv2=some (.os b2 0 len2))(hb2:lkH hp b2=some ⟨k2,true,rows2⟩)(hlen2:rows2.length=len2)(h3:qb6 P ⟨env,hp,nx,n⟩ rv3=some d3)(s3:qaU d3=true):qg0 P [rv,rv2,rv3] (.ret (.tup [.fr k [],.fr k2 rows2,d3])) .ret ⟨env,hp,nx,n⟩:=by
 subst hlen2
 exact⟨_,rfl,.inl ⟨[.nil,.blk b2,.pure],[.nilsl,.os b2 0 rows2.length,d3],[.fr k [],.fr k2 rows2,d3],by simp[h,h2,h3],by simp[qbq],⟨⟨rfl,k,rfl⟩,⟨⟨k2,true,rows2⟩,rows2,rfl,hb2,rfl,by simp⟩,qc5 (m:=63) s3,trivial⟩,rfl,fun h=>by simp at h⟩⟩
theorem qw1{P:Program}{env:Env}{hp:Hp}{nx n:Nat}{rv rv2 rv3:ResultVar}{k k2:Nat}{d3:D}(h:qb6 P ⟨env,hp,nx,n⟩ rv=some .nilsl)(h2:qb6 P ⟨env,hp,nx,n⟩ rv2=some .nilsl)(h3:qb6 P ⟨env,hp,nx,n⟩ rv3=some d3)(s3:qaU d3=true):qg0 P [rv,rv2,rv3] (.ret (.tup [.fr k [],.fr k2 [],d3])) .ret ⟨env,hp,nx,n⟩:=
 ⟨_,rfl,.inl ⟨[.nil,.nil,.pure],[.nilsl,.nilsl,d3],[.fr k [],.fr k2 [],d3],by simp[h,h2,h3],by simp[qbq],⟨⟨rfl,k,rfl⟩,⟨rfl,k2,rfl⟩,qc5 (m:=63) s3,trivial⟩,rfl,fun h=>by simp at h⟩⟩
def qzP(b:Bool):List D:=[.bool b]
def qty(x:Nat×List Int):List D:=[.int .i64 x.1,.sl (x.2.map qak)]
theorem qDA:qiH qty 2:=fun _=>⟨rfl,rfl,rfl⟩
def qyT(n:Nat)(R:Nat→Nat→Int)(m:Nat):List Nat:=(List.range m).filter fun t=>(qnt n R t).getD t false
def qdh(n:Nat)(R:Nat→Nat→Int)(m:Nat):List (Nat×List Int):=(qyT n R m).map fun t=>(t,qge n R t)
theorem qw2{n:Nat}{R:Nat→Nat→Int}{m:Nat}(h:(qnt n R m).getD m false=true):qdh n R (m+1)=qdh n R m++[(m,qge n R m)]:=by
 simp only[qdh,qyT,List.range_succ,List.filter_append,List.filter_cons,List.filter_nil,h,if_true,List.map_append,List.map_cons,List.map_nil]
theorem qyU{n:Nat}{R:Nat→Nat→Int}{m:Nat}(h:(qnt n R m).getD m false=false):qdh n R (m+1)=qdh n R m:=by
 simp only[qdh,qyT,List.range_succ,List.filter_append,List.filter_cons,List.filter_nil,h,Bool.false_eq_true,if_false,List.append_nil]
theorem qw3{n:Nat}{R:Nat→Nat→Int}{m:Nat}:(qdh n R m).length≤m:=by
 unfold qdh qyT
 rw[List.length_map]
 exact Nat.le_trans (List.length_filter_le _ _) (by simp)
noncomputable def qzQ(s:Site)(l:List Cut):List Nat×List (Nat×List Int)×Int:=
 if qde s l≠0 then([],[],qde s l)else if 8<l.length then([],[],8)else match qdd l.length (qaw s l) (fun _ _=>0) l.length 0 with
  |none=>([],qdh l.length (qaw s l) (2^l.length),11)
  |some _=>(qbd l.length (qaw s l) (fun _ _=>0) l.length 0,[],0)
theorem qmm(s:Site)(hz:Sized s)(hd:s.dreds.length<1000000000000)(h100:s.bed.levels.length≤100)(l:List Cut)(hl:l.length≤9223372036854775807):Contract Tryz.prog 53 [.agg (encSite s),.sl (l.map encCut)] (.ret (.tup [.fr 1 ((qzQ s l).1.map qcX),.fr 2 ((qzQ s l).2.1.map qty),.int .i64 (qzQ s l).2.2])):=by
 unfold qzQ
 by_cases h0:qde s l=0
 rotate_left
 ·have h1:=qwZ s hz hd l hl h0
  rw[if_pos h0]
  generalize qde s l=q at*
  refine zT mix Tryz.func53 Tryz.ntmps53 Tryz.results53 rfl rfl rfl ?_;simp only[qac,Nat.reduceAdd]
  repeat'(first|((with_reducible apply qeW);rfl;rfl)|refine zS ?_|refine zA ?_|refine zF h1 ?_|(refine zC ?_ ?_<;>first|intro h|simp)|fail)
  all_goals first
   |exact qw1 rfl rfl rfl rfl
   |(exfalso;omega)
   |trace_state
 rw[if_neg (not_not_intro h0)]
 by_cases h8:8<l.length
 ·have h1:=qw0 s hz hd l hl h0 h8
  rw[if_pos h8]
  refine zT mix Tryz.func53 Tryz.ntmps53 Tryz.results53 rfl rfl rfl ?_;simp only[qac,Nat.reduceAdd]
  repeat'(first|((with_reducible apply qeW);rfl;rfl)|refine zS ?_|refine zA ?_|refine zF h1 ?_|fail)
  all_goals first
   |exact qw1 rfl rfl rfl rfl
   |(exfalso;omega)
   |trace_state
 rw[if_neg h8]
 obtain⟨hll,hlc⟩:=qfp h0
 have hs:=(qd4 h0).1
 have h1:=qyR s hz hs h100 l h0 (by omega)
 have h2:=qBI s l (by omega)
 have h3:=qBD l.length (by omega) (qbm l.length (qaw s l) (2^l.length)) (qbm l.length (qa6 s l) (2^l.length))
 have h4:=fun(set k:Nat) hs hk=>qwS l.length (by omega) (qaw s l) (qbm l.length (qa6 s l) (2^l.length)) set k hs hk
 have hp8:=qB3 (show l.length≤8 by omega)
 have hrl:(qbm l.length (qaw s l) (2^l.length)).length=2^l.length:=qib
 have hrg:∀t (ht:t<(qbm l.length (qaw s l) (2^l.length)).length),(qbm l.length (qaw s l) (2^l.length))[t]=qge l.length (qaw s l) t:=fun t ht=>qpk ht
 unfold qid at h2
 unfold qiS at*
 generalize qbm l.length (qaw s l) (2^l.length)=rl at*
 generalize qbm l.length (qa6 s l) (2^l.length)=pl at*
 cases hp:qdd l.length (qaw s l) (fun _ _=>0) l.length 0 with
 |some c=>
  rw[hp]at h2
  refine zT mix Tryz.func53 Tryz.ntmps53 Tryz.results53 rfl rfl rfl ?_;simp only[qac,Nat.reduceAdd]
  repeat'(first|refine zQ ?_|refine zF h1 ?_|fail)
  all_goals try(exfalso;omega)
  refine qpn (f:=qcX) rfl h2 qp5 rfl rfl rfl ?_
  repeat'(first|refine zQ ?_|fail)
  all_goals first
   |exact qBJ rfl rfl (by simp) rfl rfl rfl
   |(exfalso;omega)
   |trace_state
 |none=>
  rw[hp]at h2
  obtain⟨N,hN⟩:∃N,N=2^l.length:=⟨_,rfl⟩
  simp only[←hN]at h3 h4 hp8 hrl ⊢
  dsimp only at h2
  have hn0:0<l.length:=by
   rcases Nat.eq_zero_or_pos l.length with e|e
   ·rw[e]at hp;simp[qdd]at hp
   ·exact e
  have hal:∀i,(qnt l.length (qaw s l) i).length=N:=fun i=>by rw[hN];exact qsa i
  refine zT mix Tryz.func53 Tryz.ntmps53 Tryz.results53 rfl rfl rfl ?_;simp only[qac,Nat.reduceAdd]
  repeat'(first|refine zQ ?_|refine zF h1 ?_|fail)
  all_goals try(exfalso;omega)
  refine qpn (f:=qcX) (l:=[]) rfl h2 qp5 rfl rfl rfl ?_
  repeat'(first|refine zQ ?_|refine zF h3 ?_|fail)
  have eN:D.int .i64 ((N:Int)-1+1)=D.int .i64 (N:Int):=by rw[Int.sub_add_cancel]
  refine qfj (len:=N) (z:=.bool false) eN eN (by kernel_rfl) rfl rfl (by kernel_rfl) (by omega) rfl ?_
  rw[show List.replicate N (qah (D.bool false))=(List.replicate N false).map qzP by simp[qzP,qah]]
  repeat'(first|refine zQ ?_|fail)
  refine qg3 (i:=0) rfl rfl rfl rfl rfl rfl ⟨by omega,by simp⟩ fun hlt=>?_
  repeat'(first|refine zA ?_|fail)
  refine qaA (f:=qzP) (l:=List.replicate N false) (a:=true) rfl rfl rfl (by simp;omega) rfl rfl rfl rfl (Nat.le_refl _) rfl ?_
  rw[show((List.replicate N false).set 0 true).map qzP=(qnt l.length (qaw s l) 0).map qzP by rw[hN];rfl]
  repeat'(first|refine zQ ?_|fail)
  refine qaf N (fun i=>⟨[(13,.os 2 0 (qdh l.length (qaw s l) i).length),(41,.int .i64 i),(40,.int .i64 N),(12,.os 1 0 N),(7,.ptr [.int .i64 l.length,.sl (rl.map qaV),.sl (pl.map qaV)])],[(2,⟨2,true,(qdh l.length (qaw s l) i).map qty⟩),(1,⟨1,true,(qnt l.length (qaw s l) i).map qzP⟩)],96,82⟩) (fun _=>True) ?_ trivial ?_
  ·exact qaa (nx:=96) (k:=2) (ns:=[(13,2)]) (ks:=[41,40,12,7]) [(864,1)] rfl (by simp;rfl) (by kernel_rfl)
  intro i hi _
  have hal1:=hal i
  by_cases hL:i<N
  rotate_left
  ·obtain rfl:i=N:=by omega
   repeat'(first|refine zQ ?_|(refine zI ?_;intro hlt)|(refine zC ?_ ?_<;>first|intro h|simp)|fail)
   all_goals first
    |exact absurd (show i<i by omega) hL
    |exact qBK rfl rfl rfl (by simp) rfl rfl
    |trace_state
  have hpl1:=qw3 (n:=l.length) (R:=qaw s l) (m:=i)
  have hsu:=qpc (n:=l.length) (R:=qaw s l) i
  unfold qDw at hsu
  have hgi:((qnt l.length (qaw s l) i)[i]'(by omega))=(qnt l.length (qaw s l) i).getD i false:=by rw[List.getD_eq_getElem?_getD,List.getElem?_eq_getElem (by omega)];rfl
  cases hm:(qnt l.length (qaw s l) i).getD i false with
  |false=>
   rw[hm]at hgi hsu
   rw[if_neg (by simp)]at hsu
   rw[hsu,qyU hm]
   repeat'(first|refine zQ ?_|(refine zI ?_;intro hlt)|(refine zC ?_ ?_<;>first|intro h|simp)|fail)
   all_goals first
    |exact absurd hL (by omega)
    |(exfalso;simp[hgi]at *;done)
    |exact⟨hL,trivial,qaa (nx:=96) (k:=0) (ns:=[]) (ks:=[13,41,40,12,7]) [(2,2),(1,1)] rfl (by simp) (by kernel_rfl)⟩
    |trace_state
  |true=>
   rw[hm]at hgi hsu
   rw[if_pos rfl]at hsu
   have hpy:=qw2 hm
   have hir:i<rl.length:=by omega
   have hcl:=qu3 qvS (qyS (rl[i]'hir) (by rw[hrg i hir,qjN];exact hn0) (by rw[hrg i hir,qjN];omega))
   repeat'(first|((with_reducible apply qao);rfl;rfl)|refine zS ?_|refine zA ?_|refine zF hcl ?_|(refine zI ?_;intro hlt)|(refine zC ?_ ?_<;>first|intro h|simp)|fail)
   all_goals try exact absurd hL (by omega)
   all_goals try(exfalso;simp[hgi]at *;done)
   refine qg9 (f:=qty) (a:=(i,rl[i])) (l:=qdh l.length (qaw s l) i) qDA rfl rfl rfl rfl rfl rfl (by kernel_rfl) (by kernel_rfl) (by omega) rfl ?_
   have epy:(qdh l.length (qaw s l) i).length+1=(qdh l.length (qaw s l) (i+1)).length:=by rw[hpy];simp
   rw[show qdh l.length (qaw s l) i++[(i,rl[i])]=qdh l.length (qaw s l) (i+1)by rw[hpy,hrg i hir],epy]
   repeat'(first|((with_reducible apply qao);rfl;rfl)|refine zS ?_|refine zA ?_|fail)
   refine qaf l.length (fun k=>⟨[(66,.int .i64 k),(65,.int .i64 l.length),(14,.int .i64 i),(13,.os 2 0 (qdh l.length (qaw s l) (i+1)).length),(41,.int .i64 i),(40,.int .i64 N),(12,.os 1 0 N),(7,.ptr [.int .i64 l.length,.sl (rl.map qaV),.sl (pl.map qaV)])],[(2,⟨2,true,(qdh l.length (qaw s l) (i+1)).map qty⟩),(1,⟨1,true,((List.range k).foldl (Ord.stepR (qaw s l) i) (qnt l.length (qaw s l) i)).map qzP⟩)],96,82⟩) (fun _=>True) ?_ trivial ?_
   ·exact qaa (nx:=96) (k:=0) (ns:=[]) (ks:=[66,65,14,13,41,40,12,7]) [(2,2),(1,1)] rfl (by simp) (by kernel_rfl)
   intro k hk _
   have hfl:((List.range k).foldl (Ord.stepR (qaw s l) i) (qnt l.length (qaw s l) i)).length=N:=by rw[qpd];exact hal i
   by_cases hK:k<l.length
   rotate_left
   ·obtain rfl:k=l.length:=by omega
    repeat'(first|refine zQ ?_|(refine zC ?_ ?_<;>first|intro h|simp)|fail)
    all_goals try exact absurd (show l.length<l.length by omega) hK
    refine⟨hL,trivial,?_⟩
    rw[←hsu]
    exact qaa (nx:=96) (k:=0) (ns:=[]) (ks:=[13,41,40,12,7]) [(2,2),(1,1)] rfl (by simp) (by kernel_rfl)
   have c2:=h4 i k hL hK
   have hfs:(List.range (k+1)).foldl (Ord.stepR (qaw s l) i) (qnt l.length (qaw s l) i)=Ord.stepR (qaw s l) i ((List.range k).foldl (Ord.stepR (qaw s l) i) (qnt l.length (qaw s l) i)) k:=by
    rw[List.range_succ,List.foldl_append];rfl
   rw[hfs]
   generalize (List.range k).foldl (Ord.stepR (qaw s l) i) (qnt l.length (qaw s l) i)=A at*
   have hpk:2^k<N:=by have:=Nat.pow_lt_pow_right (a:=2) (by omega) hK;omega
   cases hx:nx (qaw s l) i k with
   |false=>
    rw[hx]at c2
    rw[show Ord.stepR (qaw s l) i A k=A by unfold Ord.stepR;rw[if_neg (by rw[hx];simp)]]
    repeat'(first|refine zQ ?_|refine zF c2 ?_|(refine zC ?_ ?_<;>first|intro h|simp)|fail)
    all_goals try exact absurd hK (by omega)
    exact⟨hK,trivial,qaa (nx:=96) (k:=0) (ns:=[]) (ks:=[66,65,14,13,41,40,12,7]) [(2,2),(1,1)] rfl (by simp) (by kernel_rfl)⟩
   |true=>
    rw[hx]at c2
    rw[show Ord.stepR (qaw s l) i A k=A.set (i|||2^k) true by unfold Ord.stepR;rw[if_pos hx]]
    have hor:i|||2^k<N:=by rw[hN];exact qtw (by omega) hK
    repeat'(first|((with_reducible apply qdP);rfl;rfl;rfl;omega)|((with_reducible apply qmZ);rfl;rfl;rfl;(exact⟨by omega,by omega⟩))|refine zS ?_|refine zA ?_|refine zF c2 ?_|(refine zI ?_;intro hlt)|(refine zC ?_ ?_<;>first|intro h|simp)|fail)
    all_goals try exact absurd hK (by omega)
    refine qaA (f:=qzP) (l:=A) (a:=true) rfl rfl rfl (by omega) rfl rfl rfl rfl (Nat.le_refl _) rfl ?_
    repeat'(first|refine zQ ?_|fail)
    exact⟨hK,trivial,qaa (nx:=96) (k:=0) (ns:=[]) (ks:=[66,65,14,13,41,40,12,7]) [(2,2),(1,1)] rfl (by simp) (by kernel_rfl)⟩
def qjd(rows:List (List D)):List (List D):=rows.map fun r=>r.map fun _=>D.undef
theorem qtz{w:World}{pu:Nat→Prop}{ow:Nat→Ow}{o:Ow}{k:Nat}{rows:List (List D)}(hk:k≠0)(h:qbP w pu ow o ⟨k,qal rows,rows⟩):qbP w pu ow o ⟨k,qal (qjd rows),qjd rows⟩:=by
 refine⟨fun h=>h,?_⟩
 have h2:=h.2
 cases o with
 |dead=>exact h2
 |pending=>trivial
 |empty=>simp only at h2 ⊢;rw[h2];rfl
 |mp g=>exact absurd h2.1.2 hk
 |lies g o k' sz=>
  obtain⟨a1,a2,a3,a4,c,t,a5,a6,a7⟩:=h2
  refine⟨a1,a2,fun r hr=>?_,by simpa[qjd]using a4,c,t,a5,a6,fun i j d hd=>?_⟩
  ·obtain⟨r',hr',rfl⟩:=List.mem_map.1 hr
   simpa using a3 r' hr'
  ·unfold qar qjd at hd
   simp only[List.getElem?_map]at hd
   cases hri:rows[i]? with
   |none=>rw[hri]at hd;cases hd
   |some r=>
    rw[hri]at hd
    simp only[Option.map_some,Option.bind_some,List.getElem?_map]at hd
    cases hrj:r[j]? with
    |none=>rw[hrj]at hd;cases hd
    |some d'=>
     obtain⟨v,hv,_⟩:=a7 i j d' (by unfold qar;rw[hri];exact hrj)
     rw[hrj]at hd
     injection hd with hd
     subst hd
     exact⟨v,hv,.pure _ _ (.undef v)⟩
theorem qtA{P:Program}{g:FuncId}{ds:List D}{k k2:Nat}{rows rows2:List (List D)}{ik:IntKind}{q:Int}(hk:k2≠0)(hc:Contract P g ds (.ret (.tup [.fr k rows,.fr k2 rows2,.int ik q]))):Contract P g ds (.ret (.tup [.fr k rows,.fr k2 (qjd rows2),.int ik q])):=by
 refine⟨hc.1,fun S w args hS hargs=>(hc.2 S w args hS hargs).mono ?_⟩
 rintro e w' ⟨hb,Q,hQ,v,rfl,hr⟩
 refine⟨hb,Q,hQ,v,rfl,fun m=>?_⟩
 obtain⟨ow,hm,hv,hpend⟩:=hr m
 have ea:∀rs:List (List D),qaM m (.tup [.fr k rows,.fr k2 rs,.int ik q])=(.tup [.os m 0 rows.length,.os (m+1) 0 rs.length,.int ik q],[(m,⟨k,qal rows,rows⟩),(m+1,⟨k2,qal rs,rs⟩)]):=fun rs=>by simp[qaM,adT,adE,adC,qdy]
 rw[ea]at hm hv hpend ⊢
 have el:(qjd rows2).length=rows2.length:=by simp[qjd]
 rw[el]
 refine⟨ow,⟨fun b blk h=>?_,fun b h=>?_,hm.injO,hm.ownO,hm.zone⟩,hv,fun b h=>?_⟩
 ·simp only[lkH]at h
  split at h
  ·rename_i e1
   exact hm.blk b blk (by simp only[lkH];rw[if_pos e1];exact h)
  ·rename_i e1
   split at h
   ·rename_i e2
    injection h with h
    subst h
    exact qtz hk (hm.blk b ⟨k2,qal rows2,rows2⟩ (by simp only[lkH];rw[if_neg e1,if_pos e2]))
   ·cases h
 ·refine hm.none b ?_
  simp only[lkH]at h ⊢
  split at h
  ·cases h
  ·rename_i e1
   rw[if_neg e1]
   split at h
   ·cases h
   ·rename_i e2;rw[if_neg e2]
 ·refine hpend b ?_
  simp only[lkH]at h ⊢
  split at h
  ·cases h
  ·rename_i e1
   rw[if_neg e1]
   split at h
   ·cases h
   ·rename_i e2;rw[if_neg e2]
theorem qnx:Sized qnE:=⟨by decide,by decide,by decide,by decide,by decide,by decide,by intro g hg;simp[qnE]at hg;subst hg;decide,by decide,by intro g hg;simp[qnE]at hg;subst hg;decide⟩
theorem qDB:qzQ qnE [qzI,qB0]=([1,0],[],0):=by kernel_rfl
theorem qw4:(qzQ qnE [qzI]).1=[]∧qjd ((qzQ qnE [qzI]).2.1.map qty)=[[.undef,.undef]]∧(qzQ qnE [qzI]).2.2=11:=⟨by kernel_rfl,by kernel_rfl,by kernel_rfl⟩
theorem qDC:qBZ qnE qnE.bed qB0=22000∧qzC qnE qnE.bed qB0=0:=⟨by kernel_rfl,by kernel_rfl⟩
theorem qqr:Contract Tryz.prog 19 [] (.ret (.bool true)):=by
 have h0:=qDn
 have h1:=qwc qnE qnx (by decide) qnE.bed (by decide) qB0
 rw[qDC.1,qDC.2]at h1
 have h2:Contract Tryz.prog 53 [.agg (encSite qnE),.sl [encCut qzI,encCut qB0]] (.ret (.tup [.fr 1 [[.int .i64 1],[.int .i64 0]],.fr 2 [],.int .i64 0])):=by
  have h:=qmm qnE qnx (by decide) (by decide) [qzI,qB0] (by decide)
  rw[qDB]at h
  exact h
 have h3:Contract Tryz.prog 53 [.agg (encSite qnE),.sl [encCut qzI]] (.ret (.tup [.fr 1 [],.fr 2 [[.undef,.undef]],.int .i64 11])):=by
  have h:=qtA (by decide) (qmm qnE qnx (by decide) (by decide) [qzI] (by decide))
  rw[qw4.1,qw4.2.1,qw4.2.2]at h
  exact h
 have h4:Contract Tryz.prog 38 [.sl [[.int .i64 1],[.int .i64 0]],.sl [[.int .i64 1],[.int .i64 0]]] (.ret (.bool true)):=c79 [1,0] [1,0] (by decide)
 refine zT mix Tryz.func19 Tryz.ntmps19 Tryz.results19 rfl rfl rfl ?_;simp only[qac,Nat.reduceAdd]
 repeat'(first|((with_reducible apply qmJ);rfl;rfl;rfl)|refine zS ?_|refine zA ?_|refine zF h0 ?_|refine zF h1 ?_|fail)
 refine qbj rfl h2 rfl (zL rfl) rfl ?_
 repeat'(first|refine zQ ?_|refine zF h0 ?_|fail)
 refine qbj rfl h3 rfl (zL rfl) rfl ?_
 repeat'(first|refine zQ ?_|fail)
 refine qbj rfl h4 rfl (zL rfl) rfl ?_
 repeat'(first|refine zA ?_|refine zE ?_|fail)
 all_goals first
  |rfl
  |trace_state
theorem law_sites(s:Site)(hw:Wide s)(d:Dred)(hd:d.outs.length≤9223372036854775807)(l:List Cut)(hl:l.length≤9223372036854775807):Contract Tryz.prog 3 [.agg (encSite s),.agg (encDred d),.sl (l.map encCut)] (.ret (.bool true)):=by
 have h0:=qqr
 have h1:=qnz s hw
 have h2:Contract Tryz.prog 21 [.sl (l.map encCut),.int .i64 45] (.ret (.bool (qxb l 45))):=qBO l hl 45 (by omega)
 cases hs:qny s with
 |false=>
  rw[hs]at h1
  refine zT mix Tryz.func3 Tryz.ntmps3 Tryz.results3 rfl rfl rfl ?_;simp only[qac,Nat.reduceAdd]
  repeat'(first|(with_reducible rfl)|refine zQ ?_|refine zF h0 ?_|refine zF h1 ?_|refine zE ?_|fail)
  all_goals first|rfl|(exfalso;simp at *;done)|trace_state
 |true=>
  rw[hs]at h1
  obtain⟨hz,h16,hd8,_,_⟩:=qiT hw hs
  cases hf:qxb l 45 with
  |false=>
   rw[hf]at h2
   refine zT mix Tryz.func3 Tryz.ntmps3 Tryz.results3 rfl rfl rfl ?_;simp only[qac,Nat.reduceAdd]
   repeat'(first|(with_reducible rfl)|refine zQ ?_|refine zF h0 ?_|refine zF h1 ?_|refine zF h2 ?_|refine zE ?_|fail)
   all_goals first|rfl|(exfalso;simp at *;done)|trace_state
  |true=>
   rw[hf]at h2
   have h3:=qgN d hd
   have h4:=qgO d hd
   have h5:=qhh s hz
   have h6:=qkN s hz
   have h7:=qcm s hz l hl (by omega)
   have h8:=qhi s hz l hl (by omega)
   generalize qet d=q1 at*
   generalize qfn s=q2 at*
   generalize qde s l=q3 at*
   refine zT mix Tryz.func3 Tryz.ntmps3 Tryz.results3 rfl rfl rfl ?_;simp only[qac,Nat.reduceAdd]
   repeat'(first|(with_reducible rfl)|refine zQ ?_|refine zF h0 ?_|refine zF h1 ?_|refine zF h2 ?_|refine zF h3 ?_|refine zF h4 ?_|refine zF h5 ?_|refine zF h6 ?_|refine zF h7 ?_|refine zF h8 ?_|(refine zC ?_ ?_<;>first|intro h|simp)|(refine zG ?_ ?_<;>first|intro h|simp)|refine zE ?_|fail)
   all_goals first|rfl|(exfalso;simp at *;done)|(simp;done)|trace_state
end Go.Pv.Soil

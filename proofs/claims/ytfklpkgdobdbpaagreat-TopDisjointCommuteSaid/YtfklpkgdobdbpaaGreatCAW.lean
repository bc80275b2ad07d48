import Derived.Test.YtfklpkgdobdbpaaGreatCAU
/- Part of the proofs over YtfklpkgdobdbpaaGreat: S33, S39, N11, G2, N12, Q6. -/
set_option linter.unusedVariables false
set_option linter.unusedSimpArgs false
set_option linter.unnecessarySimpa false
open Go Go.Proofs Go.Pv
set_option maxHeartbeats 8000000
set_option maxRecDepth 100000
set_option linter.unusedSimpArgs false
set_option linter.unusedVariables false
namespace Go.Pv.Soil
theorem qJP(l:List Int)(hl:l.length<1000000000000)(v:Int):Contract Tryz.prog 262 [.sl (l.map qak),.int .i64 v] (.ret (.int .i64 (qci (fun x=>decide (v=x)) l))):=by
 refine zT mix Tryz.func262 Tryz.ntmps262 Tryz.results262 rfl rfl rfl ?_;simp only[qac,Nat.reduceAdd]
 repeat'(first|refine zQ ?_|fail)
 refine qaf (l.length) (fun i=>⟨[(8,.int .i64 i),(7,.int .i64 l.length),(0,.sl (l.map qak)),(1,.int .i64 v)],[],0,19⟩) (fun i=>∀j (hj:j<i) (hj':j<l.length),decide (v=l[j])=false) (qaa (k:=0) (ns:=[]) (ks:=[8,7,0,1]) [] rfl (by simp) rfl) (by omega) ?_
 intro i hi hC
 repeat'(first|refine zQ ?_|(refine zI ?_;intro hlt)|(refine zC ?_ ?_<;>first|intro h|simp)|refine zE ?_|fail)
 ·have h2:i<l.length:=by omega
  exact(qaY (p:=fun x=>decide (v=x)) h2 (by simp;first|exact h|exact h.symm) fun j hj=>hC j hj (by omega)).symm
 ·have h2:i<l.length:=by omega
  refine⟨by omega,fun j hj hj'=>?_,qaa (k:=0) (ns:=[]) (ks:=[8,7,0,1]) [] rfl (by simp) rfl⟩
  rcases Nat.lt_succ_iff_lt_or_eq.1 hj with h'|rfl
  ·exact hC j h' hj'
  ·simp;first|exact h|exact fun e=>h e.symm
 ·refine(qa7 fun x hx=>?_).symm
  obtain⟨j,hj,rfl⟩:=List.mem_iff_getElem.1 hx
  exact hC j (by omega) hj
theorem qIg(l:List Int)(hl:l.length<1000000000000)(v:Int):Contract Tryz.prog 214 [.sl (l.map qak),.int .i64 v] (.ret (.bool (l.any fun x=>decide (v=x)))):=by
 refine zT mix Tryz.func214 Tryz.ntmps214 Tryz.results214 rfl rfl rfl ?_;simp only[qac,Nat.reduceAdd]
 repeat'(first|((with_reducible apply qaj);rfl;(exact qJP l hl v);rfl)|refine zQ ?_|refine zE ?_|fail)
 exact qcI
def qna:Grid:=⟨0,0,0,0,0,[]⟩
theorem qIh(l:List Int)(h0:0<l.length)(hl:l.length≤1000000000):Contract Tryz.prog 190 [.sl (l.map qak)] (.ret (.fr 1 (l.map qak))):=by
 refine zT mix Tryz.func190 Tryz.ntmps190 Tryz.results190 rfl rfl rfl ?_;simp only[qac,Nat.reduceAdd]
 repeat'(first|refine zQ ?_|fail)
 refine qkp (f:=qak) rfl h0 rfl ?_
 repeat'(first|refine zQ ?_|fail)
 refine qko (f:=qak) qbw rfl rfl rfl (fun _=>rfl) (by kernel_rfl) (by kernel_rfl) hl rfl ?_
 repeat'(first|refine zA ?_|fail)
 exact qg5 rfl rfl rfl rfl
theorem c70(l:List Int)(hl:l.length≤1000000000):Contract Tryz.prog 155 [.sl (l.map qak)] (.ret (.fr 1 (l.map qak))):=by
 refine zT mix Tryz.func155 Tryz.ntmps155 Tryz.results155 rfl rfl rfl ?_;simp only[qac,Nat.reduceAdd]
 repeat'(first|refine zQ ?_|fail)
 refine qko (f:=qak) qbw rfl rfl rfl (fun _=>rfl) (by kernel_rfl) (by kernel_rfl) hl rfl ?_
 repeat'(first|refine zA ?_|fail)
 exact qg5 rfl rfl rfl rfl
def qtj(g:Grid):List D:=[.int .i64 g.x,.int .i64 g.y,.int .i64 g.side,.int .i64 g.cols,.int .i64 g.rows]
theorem c91(g:Grid)(hl:g.levels.length≤1000000000):Contract Tryz.prog 79 [.agg (encGrid g)] (.ret (.agg (qtj g++[.fr 1 (g.levels.map qak)]))):=by
 refine zT mix Tryz.func79 Tryz.ntmps79 Tryz.results79 rfl rfl rfl ?_;simp only[qac,Nat.reduceAdd]
 repeat'(first|((with_reducible apply qdC);rfl;(exact c70 g.levels hl);(exact qbw);rfl)|refine zQ ?_|fail)
 exact qbh (qpN (cs:=qtj g) (len:=g.levels.length) rfl rfl (by simp) rfl)
def qcX(n:Nat):List D:=[.int .i64 (n:Int)]
theorem qp5:qeS qcX 1:=fun _=>⟨rfl,rfl⟩
theorem qvS:qiH qak 1:=fun _=>⟨rfl,rfl,rfl⟩
structure OkCut(s:Site)(c:Cut):Prop where
 dr:0≤qcT s c.dredger
 lvl: -20000≤c.level∧c.level≤20000
 st:0≤c.start∧c.start≤1000000
 col:0≤c.col∧1≤c.cols∧c.col+c.cols≤s.bed.cols
 row:0≤c.row∧1≤c.rows∧c.row+c.rows≤s.bed.rows
theorem qFQ{s:Site}{c:Cut}(h:qdV s c=0):OkCut s c:=by
 unfold qdV at h
 split at h
 ·omega
 ·split at h
  ·omega
  ·split at h
   ·omega
   ·rename_i h1 h2 h3
    have h2:=Classical.not_not.1 h2
    have h3:=Classical.not_not.1 h3
    have:=of_decide_eq_true h2.1
    exact⟨by omega,this,h2.2,by omega,by omega⟩
def qaH(s:Site)(c:Cut):List Nat:=qcn s.bed.cols.toNat c.col.toNat c.row.toNat c.cols.toNat c.rows.toNat
theorem qkT(C col row w h:Nat):qcn C col row w (h+1)=qcn C col row w h++qik C col (row+h) w:=by
 unfold qcn;rw[List.range_succ,List.flatMap_append,List.flatMap_singleton]
theorem qrE(C col r k:Nat):qik C col r (k+1)=qik C col r k++[r*C+col+k]:=by
 unfold qik;rw[List.range_succ,List.map_append];rfl
theorem qp6(C col r k:Nat):(qik C col r k).length=k:=by simp[qik]
theorem qhZ(C col row w:Nat):∀h,(qcn C col row w h).length=h*w
 |0=>by simp[qcn]
 |h+1=>by rw[qkT,List.length_append,qhZ C col row w h,qp6,Nat.add_mul,Nat.one_mul]
theorem qvT{s:Site}{c:Cut}(hb:OkGrid s.bed)(h:OkCut s c){i k:Nat}(hi:(i:Int)<c.rows)(hk:(k:Int)≤c.cols):(0≤(c.row+i)*s.bed.cols∧(c.row+i)*s.bed.cols+c.col+k≤1024)∧
  (c.row+i)*s.bed.cols+c.col+k=(((c.row.toNat+i)*s.bed.cols.toNat+c.col.toNat+k:Nat):Int):=by
 obtain⟨dr,lvl,st,col,row⟩:=h
 have hbd:=hb.bds
 have hc:=hb.cells
 obtain⟨C,eC⟩:=Int.eq_ofNat_of_zero_le (show 0≤s.bed.cols by omega)
 obtain⟨a,ea⟩:=Int.eq_ofNat_of_zero_le (show 0≤c.row by omega)
 obtain⟨R,eR⟩:=Int.eq_ofNat_of_zero_le (show 0≤s.bed.rows by omega)
 have hc':(C:Int)*R≤1024:=by rw[←eC,←eR];exact hc
 have h1:(a+i+1)*C≤R*C:=Nat.mul_le_mul_right C (by omega)
 rw[Nat.add_mul,Nat.one_mul]at h1
 have h2:(C:Int)*R=((R*C:Nat):Int):=by rw[Int.mul_comm];simp
 have h3:((a:Int)+i)*C=(((a+i)*C:Nat):Int):=by simp
 rw[h2]at hc'
 have e1:c.row.toNat=a:=by omega
 have e2:s.bed.cols.toNat=C:=by omega
 rw[e1,e2,eC,ea,h3]
 refine⟨by omega,?_⟩
 omega
theorem qby{s:Site}{c:Cut}(hb:OkGrid s.bed)(h:OkCut s c):(qaH s c).Pairwise (· < ·)∧(∀i∈qaH s c,i<s.bed.levels.length)∧0<(qaH s c).length∧(qaH s c).length≤1024:=by
 obtain⟨dr,lvl,st,col,row⟩:=h
 have hbd:=hb.bds
 have hl:=hb.len
 have hsm:=hb.small
 have e:s.bed.levels.length=s.bed.rows.toNat*s.bed.cols.toNat:=by
  have h1:((s.bed.rows.toNat*s.bed.cols.toNat:Nat):Int)=s.bed.cols*s.bed.rows:=by
   rw[Int.natCast_mul,Int.toNat_of_nonneg (by omega),Int.toNat_of_nonneg (by omega),Int.mul_comm]
  omega
 have ha:(qaH s c).Pairwise (· < ·):=qrz (by omega) _
 have hlt:∀i∈qaH s c,i<s.bed.levels.length:=fun i hi=>by rw[e];exact qAU (by omega) (by omega) hi
 have hle:(qaH s c).length=c.rows.toNat*c.cols.toNat:=qhZ _ _ _ _ _
 have hpos:0<c.rows.toNat*c.cols.toNat:=Nat.mul_pos (by omega) (by omega)
 have hmul:c.rows.toNat*c.cols.toNat≤s.bed.rows.toNat*s.bed.cols.toNat:=Nat.mul_le_mul (by omega) (by omega)
 exact⟨ha,hlt,by omega,by omega⟩
theorem qvU{s:Site}{c:Cut}(hb:OkGrid s.bed)(h:OkCut s c){i k:Nat}(hi:(i:Int)<c.rows)(hk:(k:Int)≤c.cols):i*c.cols.toNat+k≤1024:=by
 have h4:=(qby hb h).2.2.2
 unfold qaH at h4
 rw[qhZ]at h4
 have:(i+1)*c.cols.toNat≤c.rows.toNat*c.cols.toNat:=Nat.mul_le_mul_right _ (by omega)
 rw[Nat.add_mul,Nat.one_mul]at this
 omega
theorem qdv(s:Site)(hb:OkGrid s.bed)(c:Cut)(hc:OkCut s c):Contract Tryz.prog 121 [.agg (encSite s),.agg (encCut c)] (.ret (.sl ((qaH s c).map qcX))):=by
 obtain⟨hdr,hlv,hst,hcol,hrow⟩:=id hc
 have hbd:=hb.bds
 refine zT mix Tryz.func121 Tryz.ntmps121 Tryz.results121 rfl rfl rfl ?_;simp only[qac,Nat.reduceAdd]
 repeat'(first|refine zQ ?_|fail)
 refine qaf c.rows.toNat (fun i=>⟨[(5,.os 2 0 (qcn s.bed.cols.toNat c.col.toNat c.row.toNat c.cols.toNat i).length),(10,.int .i64 i),(9,.int .i64 c.rows),(2,.op 0 0 0),(3,.op 1 0 0)],[(2,⟨1,true,(qcn s.bed.cols.toNat c.col.toNat c.row.toNat c.cols.toNat i).map qcX⟩),(0,⟨12,true,[encSite s]⟩),(1,⟨8,true,[encCut c]⟩)],96,37⟩) (fun i=>True)
  (qaa (nx:=96) (k:=1) (ns:=[(5,2)]) (ks:=[10,9,2,3]) [(0,0),(32,1)] rfl (by simp;rfl) (by kernel_rfl)) trivial ?_
 intro i hi _
 by_cases hL:(i:Int)<c.rows
 rotate_left
 ·obtain rfl:i=c.rows.toNat:=by omega
  repeat'(first|refine zQ ?_|(refine zC ?_ ?_<;>first|intro h|simp)|fail)
  all_goals first
   |exact absurd (by assumption) hL
   |exact quZ rfl rfl rfl rfl
   |trace_state
 repeat'(first|refine zQ ?_|(refine zC ?_ ?_<;>first|intro h|simp)|fail)
 all_goals try exact absurd hL (by omega)
 refine qaf c.cols.toNat (fun k=>⟨[(15,.int .i64 k),(14,.int .i64 c.cols),(6,.int .i64 i),(10,.int .i64 i),(9,.int .i64 c.rows),(5,.os 2 0 (qcn s.bed.cols.toNat c.col.toNat c.row.toNat c.cols.toNat i++qik s.bed.cols.toNat c.col.toNat (c.row.toNat+i) k).length),(2,.op 0 0 0),(3,.op 1 0 0)],[(2,⟨1,true,(qcn s.bed.cols.toNat c.col.toNat c.row.toNat c.cols.toNat i++qik s.bed.cols.toNat c.col.toNat (c.row.toNat+i) k).map qcX⟩),(0,⟨12,true,[encSite s]⟩),(1,⟨8,true,[encCut c]⟩)],96,37⟩) (fun k=>True)
  ?_ trivial ?_
 ·rw[show qcn s.bed.cols.toNat c.col.toNat c.row.toNat c.cols.toNat i++qik s.bed.cols.toNat c.col.toNat (c.row.toNat+i) 0=qcn s.bed.cols.toNat c.col.toNat c.row.toNat c.cols.toNat i by simp[qik]]
  exact qaa (nx:=96) (k:=1) (ns:=[]) (ks:=[15,14,6,10,9,5,2,3]) [(2,2),(0,0),(1,1)] rfl (by simp) (by kernel_rfl)
 intro k hk _
 by_cases hM:(k:Int)<c.cols
 ·have hcb:=qvT hb hc hL (k:=k) (by omega)
  have hrb:=qvU hb hc hL (k:=k) (by omega)
  have hlen:(qcn s.bed.cols.toNat c.col.toNat c.row.toNat c.cols.toNat i++qik s.bed.cols.toNat c.col.toNat (c.row.toNat+i) k).length≤1024:=by rw[List.length_append,qhZ,qp6];exact hrb
  repeat'(first|refine zQ ?_|(refine zC ?_ ?_<;>first|intro h|simp)|fail)
  all_goals try exact absurd hM (by omega)
  rw[hcb.2]
  refine qaE (f:=qcX) (a:=(c.row.toNat+i)*s.bed.cols.toNat+c.col.toNat+k) (l:=qcn s.bed.cols.toNat c.col.toNat c.row.toNat c.cols.toNat i++qik s.bed.cols.toNat c.col.toNat (c.row.toNat+i) k) qp5 rfl rfl rfl rfl rfl rfl (by kernel_rfl) (by kernel_rfl) (by omega) rfl ?_
  repeat'(first|refine zQ ?_|fail)
  refine⟨by omega,trivial,?_⟩
  have e:qcn s.bed.cols.toNat c.col.toNat c.row.toNat c.cols.toNat i++qik s.bed.cols.toNat c.col.toNat (c.row.toNat+i) k++[(c.row.toNat+i)*s.bed.cols.toNat+c.col.toNat+k]=qcn s.bed.cols.toNat c.col.toNat c.row.toNat c.cols.toNat i++qik s.bed.cols.toNat c.col.toNat (c.row.toNat+i) (k+1):=by rw[qrE,List.append_assoc]
  have el:(qcn s.bed.cols.toNat c.col.toNat c.row.toNat c.cols.toNat i++qik s.bed.cols.toNat c.col.toNat (c.row.toNat+i) k).length+1=(qcn s.bed.cols.toNat c.col.toNat c.row.toNat c.cols.toNat i++qik s.bed.cols.toNat c.col.toNat (c.row.toNat+i) (k+1)).length:=by rw[←e];simp;omega
  rw[e,el]
  exact qaa (nx:=96) (k:=1) (ns:=[]) (ks:=[15,14,6,10,9,5,2,3]) [(2,2),(0,0),(1,1)] rfl (by simp) (by kernel_rfl)
 ·obtain rfl:k=c.cols.toNat:=by omega
  repeat'(first|refine zQ ?_|(refine zC ?_ ?_<;>first|intro h|simp)|fail)
  all_goals try exact absurd (by assumption) hM
  refine⟨by omega,trivial,?_⟩
  rw[←qkT]
  exact qaa (nx:=96) (k:=1) (ns:=[]) (ks:=[5,10,9,2,3]) [(2,2),(0,0),(1,1)] rfl (by simp) (by kernel_rfl)
theorem qhj(s:Site)(hb:OkGrid s.bed)(c:Cut)(hc:OkCut s c):Contract Tryz.prog 43 [.agg (encSite s),.agg (encCut c)] (.ret (.sl ((qaH s c).map qcX))):=by
 obtain⟨hdr,hlv,hst,hcol,hrow⟩:=id hc
 have hbd:=hb.bds
 refine zT mix Tryz.func43 Tryz.ntmps43 Tryz.results43 rfl rfl rfl ?_;simp only[qac,Nat.reduceAdd]
 repeat'(first|refine zQ ?_|fail)
 refine qaf c.rows.toNat (fun i=>⟨[(5,.os 2 0 (qcn s.bed.cols.toNat c.col.toNat c.row.toNat c.cols.toNat i).length),(6,.int .i64 (c.row+i)),(2,.op 0 0 0),(3,.op 1 0 0)],[(2,⟨1,true,(qcn s.bed.cols.toNat c.col.toNat c.row.toNat c.cols.toNat i).map qcX⟩),(0,⟨12,true,[encSite s]⟩),(1,⟨8,true,[encCut c]⟩)],96,41⟩) (fun i=>True)
  ?_ trivial ?_
 ·rw[show c.row+((0:Nat):Int)=c.row by omega]
  exact qaa (nx:=96) (k:=1) (ns:=[(5,2)]) (ks:=[6,2,3]) [(0,0),(32,1)] rfl (by simp;rfl) (by kernel_rfl)
 intro i hi _
 by_cases hL:(i:Int)<c.rows
 rotate_left
 ·obtain rfl:i=c.rows.toNat:=by omega
  repeat'(first|refine zQ ?_|(refine zC ?_ ?_<;>first|intro h|simp)|fail)
  all_goals first
   |exact absurd (show((c.rows.toNat:Nat):Int)<c.rows by omega) hL
   |exact quZ rfl rfl rfl rfl
   |trace_state
 repeat'(first|refine zQ ?_|(refine zC ?_ ?_<;>first|intro h|simp)|fail)
 all_goals try exact absurd hL (by omega)
 refine qaf c.cols.toNat (fun k=>⟨[(7,.int .i64 (c.col+k)),(6,.int .i64 (c.row+i)),(5,.os 2 0 (qcn s.bed.cols.toNat c.col.toNat c.row.toNat c.cols.toNat i++qik s.bed.cols.toNat c.col.toNat (c.row.toNat+i) k).length),(2,.op 0 0 0),(3,.op 1 0 0)],[(2,⟨1,true,(qcn s.bed.cols.toNat c.col.toNat c.row.toNat c.cols.toNat i++qik s.bed.cols.toNat c.col.toNat (c.row.toNat+i) k).map qcX⟩),(0,⟨12,true,[encSite s]⟩),(1,⟨8,true,[encCut c]⟩)],96,41⟩) (fun k=>True)
  ?_ trivial ?_
 ·rw[show qcn s.bed.cols.toNat c.col.toNat c.row.toNat c.cols.toNat i++qik s.bed.cols.toNat c.col.toNat (c.row.toNat+i) 0=qcn s.bed.cols.toNat c.col.toNat c.row.toNat c.cols.toNat i by simp[qik],show c.col+((0:Nat):Int)=c.col by omega]
  exact qaa (nx:=96) (k:=1) (ns:=[]) (ks:=[7,6,5,2,3]) [(2,2),(0,0),(1,1)] rfl (by simp) (by kernel_rfl)
 intro k hk _
 by_cases hM:(k:Int)<c.cols
 ·have hcb:=qvT hb hc hL (k:=k) (by omega)
  have hrb:=qvU hb hc hL (k:=k) (by omega)
  have hlen:(qcn s.bed.cols.toNat c.col.toNat c.row.toNat c.cols.toNat i++qik s.bed.cols.toNat c.col.toNat (c.row.toNat+i) k).length≤1024:=by rw[List.length_append,qhZ,qp6];exact hrb
  repeat'(first|refine zQ ?_|(refine zC ?_ ?_<;>first|intro h|simp)|fail)
  all_goals try exact absurd hM (by omega)
  rw[show(c.row+ ↑i)*s.bed.cols+(c.col+ ↑k)=(((c.row.toNat+i)*s.bed.cols.toNat+c.col.toNat+k:Nat):Int)by rw[←hcb.2];omega]
  refine qaE (f:=qcX) (a:=(c.row.toNat+i)*s.bed.cols.toNat+c.col.toNat+k) (l:=qcn s.bed.cols.toNat c.col.toNat c.row.toNat c.cols.toNat i++qik s.bed.cols.toNat c.col.toNat (c.row.toNat+i) k) qp5 rfl rfl rfl rfl rfl rfl (by kernel_rfl) (by kernel_rfl) (by omega) rfl ?_
  repeat'(first|refine zQ ?_|fail)
  refine⟨by omega,trivial,?_⟩
  have e:qcn s.bed.cols.toNat c.col.toNat c.row.toNat c.cols.toNat i++qik s.bed.cols.toNat c.col.toNat (c.row.toNat+i) k++[(c.row.toNat+i)*s.bed.cols.toNat+c.col.toNat+k]=qcn s.bed.cols.toNat c.col.toNat c.row.toNat c.cols.toNat i++qik s.bed.cols.toNat c.col.toNat (c.row.toNat+i) (k+1):=by rw[qrE,List.append_assoc]
  have el:(qcn s.bed.cols.toNat c.col.toNat c.row.toNat c.cols.toNat i++qik s.bed.cols.toNat c.col.toNat (c.row.toNat+i) k).length+1=(qcn s.bed.cols.toNat c.col.toNat c.row.toNat c.cols.toNat i++qik s.bed.cols.toNat c.col.toNat (c.row.toNat+i) (k+1)).length:=by rw[←e];simp;omega
  rw[e,el,show c.col+ ↑k+1=c.col+((k+1:Nat):Int)by omega]
  exact qaa (nx:=96) (k:=1) (ns:=[]) (ks:=[7,6,5,2,3]) [(2,2),(0,0),(1,1)] rfl (by simp) (by kernel_rfl)
 ·obtain rfl:k=c.cols.toNat:=by omega
  repeat'(first|refine zQ ?_|(refine zC ?_ ?_<;>first|intro h|simp)|fail)
  all_goals try exact absurd (show((c.cols.toNat:Nat):Int)<c.cols by omega) hM
  refine⟨by omega,trivial,?_⟩
  rw[←qkT,show c.row+ ↑i+1=c.row+((i+1:Nat):Int)by omega]
  exact qaa (nx:=96) (k:=1) (ns:=[]) (ks:=[5,6,2,3]) [(2,2),(0,0),(1,1)] rfl (by simp) (by kernel_rfl)
theorem qyd{g:Ground}{m a:Grid}(h:qa3 g [m,a]=0):qaI g=0∧qa8 m=0∧qa8 a=0∧qbX m a=true:=by
 unfold qa3 at h
 split at h
 ·omega
 ·rename_i h1
  split at h
  ·omega
  ·rename_i h2
   simp only[List.map_cons,List.map_nil,qcR]at h2
   have h:(if qbX m a=true then(0:Int)else 10)=0:=h
   split at h
   ·rename_i h4
    refine⟨by omega,?_,?_,h4⟩
    ·split at h2<;>omega
    ·split at h2
     ·omega
     ·split at h2<;>omega
   ·omega
theorem qp9{m o:Grid}(h:qbX m o=true):o=qCX m o.levels:=by
 have p3:decide (m.x=o.x∧m.y=o.y∧m.side=o.side∧m.cols=o.cols∧m.rows=o.rows)=true:=h
 have p3:=of_decide_eq_true p3
 obtain⟨x,y,sd,c,r,l⟩:=o
 simp only at p3
 obtain⟨q1,q2,q3,q4,q5⟩:=p3
 simp only[qCX,q1,q2,q3,q4,q5]
theorem qoO{m o:Grid}(hm:OkGrid m)(ho:OkGrid o)(h:qbX m o=true):o.levels.length=m.levels.length:=by
 have a:=ho.len
 have b:=hm.len
 have c:o.cols*o.rows=m.cols*m.rows:=by rw[qp9 h];rfl
 omega
def qeL(s:Site)(b:Grid)(c:Cut):Grid:=⟨b.x,b.y,b.side,b.cols,b.rows,qgt b.levels (qaH s c) c.level⟩
def qcd(s:Site)(b:Grid)(c:Cut):List Nat:=qnD b.levels (qaH s c) c.level
structure OkBed(s:Site)(b:Grid):Prop where
 ok:OkGrid b
 er:qa8 b=0
 al:qbX s.bed b=true
theorem OkBed.len{s:Site}{b:Grid}(hs:OkGrid s.bed)(h:OkBed s b):b.levels.length=s.bed.levels.length:=qoO hs h.ok h.al
theorem qzu{l:List Int}{foot:List Nat}{v:Int}:(qnD l foot v).length≤foot.length:=List.length_filter_le _ _
theorem qye{α:Type}(l:List α)(j:Nat):(l.take j).length≤l.length:=by rw[List.length_take];omega
theorem qf4(s:Site)(hs:OkGrid s.bed)(b:Grid)(hb:OkBed s b)(c:Cut)(hc:OkCut s c):Contract Tryz.prog 122 [.agg (encSite s),.agg (encGrid b),.agg (encCut c)] (.ret (.tup [.agg (encGrid (qeL s b c)),.sl ((qcd s b c).map qcX)])):=by
 obtain⟨ha,hlt,hpos,hle⟩:=qby hs hc
 have hlen:=hb.len hs
 have hbd:=hb.ok.bds
 have hsm:=hb.ok.small
 have hnd:=qoK ha
 have h1:=qIh b.levels (by rw[hlen];have:=hlt _ (List.getElem_mem hpos);omega) (by omega)
 have h2:=qdv s hs c hc
 have hlt':∀j (hj:j<(qaH s c).length),(qaH s c)[j]<b.levels.length:=fun j hj=>by rw[hlen];exact hlt _ (List.getElem_mem hj)
 have hF:qeS qak 1:=fun _=>⟨rfl,rfl⟩
 show Contract _ _ _ (.ret (.tup [.agg (encGrid ⟨b.x,b.y,b.side,b.cols,b.rows,qgt b.levels (qaH s c) c.level⟩),.sl ((qnD b.levels (qaH s c) c.level).map qcX)]))
 generalize qaH s c=ft at*
 refine zT mix Tryz.func122 Tryz.ntmps122 Tryz.results122 rfl rfl rfl ?_;simp only[qac,Nat.reduceAdd]
 repeat'(first|((with_reducible apply qdC);rfl;(exact h1);(exact hF);rfl)|refine zQ ?_|refine zF h2 ?_|fail)
 refine qaf ft.length (fun j=>⟨[(8,.os 4 0 (qnD b.levels (ft.take j) c.level).length),(19,.int .i64 j),(18,.int .i64 ft.length),(17,.sl (ft.map qcX)),(6,.op 5 0 0),(5,.op 2 0 0),(4,.op 1 0 0)],
  [(4,⟨1,true,(qnD b.levels (ft.take j) c.level).map qcX⟩),(1,⟨6,false,[qtj b++[.os 3 0 b.levels.length]]⟩),(2,⟨8,true,[encCut c]⟩),(3,⟨1,true,(qgt b.levels (ft.take j) c.level).map qak⟩),(5,⟨6,false,[[.int .i64 0,.int .i64 0,.int .i64 0,.int .i64 0,.int .i64 0,.nilsl]]⟩)],192,52⟩) (fun j=>True) ?_ trivial ?_
 ·rw[show qgt b.levels (ft.take 0) c.level=b.levels from qvJ]
  exact qaa (nx:=192) (k:=1) (ns:=[(8,4)]) (ks:=[19,18,17,6,5,4]) [(32,1),(64,2),(256,3),(96,5)] rfl (by simp;rfl) (by kernel_rfl)
 intro j hj _
 have hll:=qaZ b.levels (ft.take j) c.level
 by_cases hL:j<ft.length
 ·have hjb:=hlt' j hL
  have hat:=qzs (v:=c.level) hnd hL hjb
  have hgl:(qgt b.levels (ft.take j) c.level)[ft[j]]'(by omega)=lv b.levels ft[j]:=by rw[←qbu (by omega),hat]
  have hcl:=qzu (l:=b.levels) (foot:=ft.take j) (v:=c.level)
  have htl:=qye ft j
  repeat'(first|refine zQ ?_|(refine zI ?_;intro hlt)|(refine zC ?_ ?_<;>first|intro h|simp)|(refine zG ?_ ?_<;>first|intro h|simp)|fail)
  all_goals try exact absurd hL (by omega)
  ·refine qaA (f:=qak) (l:=qgt b.levels (ft.take j) c.level) (i:=ft[j]) (a:=c.level) rfl rfl rfl (by omega) rfl rfl rfl rfl (zL rfl) rfl ?_
   repeat'(first|refine zQ ?_|fail)
   refine qaE (f:=qcX) (a:=ft[j]) (l:=qnD b.levels (ft.take j) c.level) qp5 rfl rfl rfl rfl rfl rfl (by kernel_rfl) (by kernel_rfl) (by omega) rfl ?_
   repeat'(first|refine zQ ?_|fail)
   have hk0:lv b.levels ft[j]≠30000:=by rw[←hgl];assumption
   have hv0:c.level<lv b.levels ft[j]:=by rw[←hgl];assumption
   refine⟨hL,trivial,?_⟩
   have e1:=qAV hnd hL hjb hk0 hv0
   have e2:=qAW (l:=b.levels) (v:=c.level) hL hk0 hv0
   have el:(qnD b.levels (ft.take j) c.level).length+1=(qnD b.levels (ft.take (j+1)) c.level).length:=by rw[e2];simp
   rw[e1,←e2,el]
   exact qaa (nx:=192) (k:=1) (ns:=[]) (ks:=[8,19,18,17,6,5,4]) [(4,4),(1,1),(2,2),(3,3),(5,5)] rfl (by simp) (by kernel_rfl)
  ·have hv0:¬c.level<lv b.levels ft[j]:=by rw[←hgl];assumption
   refine⟨hL,trivial,?_⟩
   rw[qvK hL (.inr hv0),qzt hL (.inr hv0)]
   exact qaa (nx:=192) (k:=1) (ns:=[]) (ks:=[8,19,18,17,6,5,4]) [(4,4),(1,1),(2,2),(3,3),(5,5)] rfl (by simp) (by kernel_rfl)
  ·have hk0:lv b.levels ft[j]=30000:=by rw[←hgl];assumption
   refine⟨hL,trivial,?_⟩
   rw[qvK hL (.inl hk0),qzt hL (.inl hk0)]
   exact qaa (nx:=192) (k:=1) (ns:=[]) (ks:=[8,19,18,17,6,5,4]) [(4,4),(1,1),(2,2),(3,3),(5,5)] rfl (by simp) (by kernel_rfl)
 ·obtain rfl:j=ft.length:=by omega
  repeat'(first|refine zQ ?_|(refine zI ?_;intro hlt)|(refine zC ?_ ?_<;>first|intro h|simp)|(refine zG ?_ ?_<;>first|intro h|simp)|fail)
  all_goals try exact absurd (show ft.length<ft.length by omega) hL
  rw[List.take_length]at*
  exact qcs rfl rfl (qzd (f:=qak) (k:=1) (m:=56) rfl (by rw[hll])) (qel (f:=qcX) (m:=63) rfl rfl)
end Go.Pv.Soil
namespace Go.Pv.Ord
variable {n:Nat}{R p:Nat→Nat→Int}
def qgA(n:Nat)(R p:Nat→Nat→Int)(t:Nat):List (Option Int):=(List.range (2^n)).map fun s=>if t≤s then qdd n R p (cz n s) s else none
theorem qeN{t:Nat}:(qgA n R p t).length=2^n:=by simp[qgA]
theorem qiR{t s:Nat}(hs:s<2^n):(qgA n R p t)[s]'(by rw[qeN];exact hs)=if t≤s then qdd n R p (cz n s) s else none:=by simp[qgA]
def qfs(n:Nat)(R p:Nat→Nat→Int)(t k:Nat):List (Option Int):=(qgA n R p (t+1)).set t (best ((List.range k).map (qho n R p (cz n t-1) t)))
theorem qgB{t k:Nat}:(qfs n R p t k).length=2^n:=by simp[qfs,qeN]
theorem qwO{t:Nat}:qfs n R p t 0=qgA n R p (t+1):=by
 apply List.ext_getElem
 ·rw[qgB,qeN]
 ·intro i h1 h2
  have hi:i<2^n:=by rw[qeN]at h2;exact h2
  simp only[qfs,List.getElem_set]
  split
  ·rename_i e
   subst e
   rw[qiR hi,if_neg (by omega)]
   rfl
  ·rfl
theorem qpe{t:Nat}(h:t<2^n-1):0<cz n t:=by
 rcases Nat.eq_zero_or_pos (cz n t)with e|e
 ·have:=qmk (by omega) e
  omega
 ·exact e
theorem qwP{t:Nat}(h:t<2^n-1):qfs n R p t n=qgA n R p t:=by
 have hp:=qpe h
 obtain⟨m,hm⟩:∃m,cz n t=m+1:=⟨cz n t-1,by omega⟩
 apply List.ext_getElem
 ·rw[qgB,qeN]
 ·intro i h1 h2
  have hi:i<2^n:=by rw[qeN]at h2;exact h2
  simp only[qfs,List.getElem_set,qiR hi]
  split
  ·rename_i e
   subst e
   rw[if_pos (Nat.le_refl _),hm,qiQ]
   rfl
  ·rename_i e
   by_cases h3:t+1≤i
   ·rw[if_pos h3,if_pos (by omega)]
   ·rw[if_neg h3,if_neg (by omega)]
theorem qwQ{t k j:Nat}(ht:t<2^n)(hj:j<n)(hb:t.testBit j=false):(qfs n R p t k)[t|||2^j]'(by rw[qgB];exact qtw ht hj)=qdd n R p (cz n t-1) (t|||2^j):=by
 have h1:=qF1 hb
 have h2:=qyM hb hj
 simp only[qfs,List.getElem_set]
 rw[if_neg (by omega),qiR (qtw ht hj),if_pos (by omega)]
 congr 1
 omega
theorem qsb{t k:Nat}(ht:t<2^n):(qfs n R p t k)[t]'(by rw[qgB];exact ht)=best ((List.range k).map (qho n R p (cz n t-1) t)):=by
 simp only[qfs,List.getElem_set,if_true]
theorem qwR{t k m:Nat}:best ((List.range (k+1)).map (qho n R p m t))=upd (best ((List.range k).map (qho n R p m t))) (qho n R p m t k):=by
 rw[List.range_succ,List.map_append,List.map_singleton,qpb]
theorem qpf{t k:Nat}:qfs n R p t (k+1)=(qfs n R p t k).set t (upd (best ((List.range k).map (qho n R p (cz n t-1) t))) (qho n R p (cz n t-1) t k)):=by
 simp only[qfs,List.set_set,qwR]
theorem qyO{c:Option Int}:upd c none=c:=rfl
theorem set_same{α:Type}{l:List α}{i:Nat}{a:α}(hi:i<l.length)(h:l[i]=a):l.set i a=l:=by
 subst h
 simp
theorem qpg{t k:Nat}(ht:t<2^n)(h:qho n R p (cz n t-1) t k=none):qfs n R p t (k+1)=qfs n R p t k:=by
 rw[qpf,h,qyO]
 exact set_same (by rw[qgB];exact ht) (qsb ht)
def qph(l:List Nat):Nat:=l.foldl (fun s k=>s|||2^k) 0
theorem qpi{l:List Nat}{k:Nat}:qph (l++[k])=qph l|||2^k:=by simp[qph]
theorem qpj{m s:Nat}{c:Int}(h:qdd n R p (m+1) s=some c):∃k,k<n∧nx R s k=true∧qho n R p m s k=some c∧(∀j,j<k→qho n R p m s j≠some c)∧qbd n R p (m+1) s=k::qbd n R p m (s|||2^k)∧(qdd n R p m (s|||2^k)).isSome=true:=by
 obtain⟨⟨l1,l2,e,_,_⟩,_⟩:=(qe3 (m+1) s).2 c h
 have hp:qbd n R p (m+1) s=match(List.range n).find? fun k=>decide (qho n R p m s k=some c)with
   |some k=>k::qbd n R p m (s|||2^k)
   |none=>[]:=by simp only[qbd,h];rfl
 cases hf:(List.range n).find? fun k=>decide (qho n R p m s k=some c)with
 |none=>
  rw[hf]at hp
  simp only at hp
  have hm:qbd n R p (m+1) s∈ordL n R (m+1) s:=by rw[e];simp
  rw[hp]at hm
  obtain⟨k,_,hk⟩:=List.mem_flatMap.1 hm
  split at hk
  ·obtain⟨y,_,hy⟩:=List.mem_map.1 hk
   cases hy
  ·cases hk
 |some k=>
  rw[hf]at hp
  simp only at hp
  have hv:qho n R p m s k=some c:=by have h9:=List.find?_some hf;simpa using h9
  have hk:k<n:=List.mem_range.1 (List.mem_of_find?_eq_some hf)
  have hn:nx R s k=true:=by
   unfold qho at hv
   split at hv
   ·assumption
   ·cases hv
  refine⟨k,hk,hn,hv,fun j hj hj2=>?_,hp,?_⟩
  ·rw[List.find?_eq_some_iff_getElem]at hf
   obtain⟨_,i,hi,e1,h2⟩:=hf
   simp only[List.getElem_range]at e1
   subst e1
   have:=h2 j hj
   simp[hj2]at this
  ·unfold qho at hv
   rw[if_pos hn]at hv
   obtain⟨q,hq,_⟩:=Option.map_eq_some_iff.1 hv
   rw[hq];rfl
end Go.Pv.Ord

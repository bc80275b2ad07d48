import Derived.Test.YtfklpkgdobdbpaaGreatCAN
/- Part of the proofs over YtfklpkgdobdbpaaGreat: PH17. -/
set_option linter.unusedVariables false
set_option linter.unusedSimpArgs false
set_option linter.unnecessarySimpa false
open Go Go.Proofs Go.Pv
set_option maxHeartbeats 8000000
set_option maxRecDepth 100000
set_option linter.unusedSimpArgs false
set_option linter.unusedVariables false
namespace Go.Pv.Geo
def qtf(b:Bool):Int:=if b=true then 1 else -1
theorem qDe(b:Bool): -1≤qtf b∧qtf b≤1:=by unfold qtf;split<;>omega
theorem qAd(b:Bool):qtf (b ^^true)=0-qtf b:=by cases b<;>rfl
theorem qxS{l:List Pt}{p:Pt}(h:qok l p=true):qu9 l p=0:=if_pos h
theorem qtg{l:List Pt}{p:Pt}(h:qok l p=false):qu9 l p=qtf (qtd l p l.length):=by
 rw[qu9,if_neg (by rw[h];simp)];rfl
theorem qAe(l:List Pt)(h0:0<l.length)(hl:l.length<1000000000000)(hok:∀q∈l,ptOK q=true)(p:Pt)(hp:ptOK p=true):Contract Tryz.prog 254 [.sl (l.map encPt),.agg (encPt p)] (.ret (.int .i64 (qu9 l p))):=by
 refine zT mix Tryz.func254 Tryz.ntmps254 Tryz.results254 rfl rfl rfl ?_;simp only[qab,Nat.reduceAdd]
 repeat'(first|refine zQ ?_|fail)
 refine qad l.length (fun i=>⟨[(11,.int .i64 i),(10,.int .i64 l.length),(9,.sl (l.map encPt)),(0,.sl (l.map encPt)),(5,.int .i64 (qtf (qtd l p i))),(3,.op 0 0 0)],[(0,⟨2,true,[encPt p]⟩)],32,54⟩) (fun i=>∀j,j<i→onE (qaf l j) (qaf l (j+1)) p=false) (qaa (nx:=32) (k:=0) (ns:=[]) (ks:=[11,10,9,0,5,3]) [(0,0)] rfl (by simp) (by kernel_rfl)) (fun j hj=>absurd hj (by omega)) ?_
 intro i hi hC
 have hin:=qDe (qtd l p i)
 by_cases hlt:i<l.length
 ·have ec:=qdJ hlt
  have hoa:ptOK l[i]=true:=hok _ (List.getElem_mem hlt)
  have hob:ptOK (qaf l (i+1))=true:=hok _ (qbh h0 _)
  have h188:Contract Tryz.prog 256 [.sl (l.map encPt),.int .i64 ((i:Int)+1)] (.ret (.agg (encPt (qaf l (i+1))))):=qik l h0 hl (i+1)
  have h189:=qCG l[i] (qaf l (i+1)) p hoa hob hp
  have hx1:=qji l[i] (qaf l (i+1)) p hoa hob hp
  have hx2:=qji (qaf l (i+1)) l[i] p hob hoa hp
  have hnx:qtf (qtd l p (i+1))=qtf (qtd l p i ^^qhf (qaf l i) (qaf l (i+1)) p):=rfl
  have hCon:onE (qaf l i) (qaf l (i+1)) p=false→∀j,j<i+1→onE (qaf l j) (qaf l (j+1)) p=false:=fun h j hj=>by
   rcases Nat.lt_succ_iff_lt_or_eq.1 hj with h'|rfl
   ·exact hC j h'
   ·exact h
  rw[ec]at hnx hCon
  have hres:onE l[i] (qaf l (i+1)) p=true→qu9 l p=0:=fun h=>qxS (qpW hlt (by rw[ec];exact h))
  clear hok h0
  generalize qaf l (i+1)=b at*
  have hno:qhf l[i] b p=false→qtf (qtd l p (i+1))=qtf (qtd l p i):=fun h=>by rw[hnx,h,Bool.xor_false]
  have hyes:qhf l[i] b p=true→qtf (qtd l p (i+1))=0-qtf (qtd l p i):=fun h=>by rw[hnx,h,qAd]
  by_cases hsw:b.y<l[i].y
  ·have hr:qhf l[i] b p=decide ((b.y≤p.y∧p.y<l[i].y)∧0<crossE b l[i] p):=by simp only[qhf,if_pos hsw]
   rw[hr]at hno hyes
   repeat'(first|refine zQ ?_|refine zF h188 ?_|refine zF h189 ?_|refine zF hx2 ?_|(refine zI ?_;intro hlt)|(refine zC ?_ ?_<;>first|intro h|simp)|(refine zG ?_ ?_<;>first|intro h|simp)|refine zE ?_|fail)
   all_goals try exact absurd hlt (by omega)
   all_goals first
    |exact(hres (by assumption)).symm
    |(refine⟨by omega,hCon (by assumption),?_⟩;rw[hno (decide_eq_false (by omega))];exact qaa (nx:=32) (k:=0) (ns:=[]) (ks:=[11,10,9,0,5,3]) [(0,0)] rfl (by simp) (by kernel_rfl))
    |(refine⟨by omega,hCon (by assumption),?_⟩;rw[hyes (decide_eq_true (by omega))];exact qaa (nx:=32) (k:=0) (ns:=[]) (ks:=[11,10,9,0,5,3]) [(0,0)] rfl (by simp) (by kernel_rfl))
    |trace_state
  ·have hr:qhf l[i] b p=decide ((l[i].y≤p.y∧p.y<b.y)∧0<crossE l[i] b p):=by simp only[qhf,if_neg hsw]
   rw[hr]at hno hyes
   repeat'(first|refine zQ ?_|refine zF h188 ?_|refine zF h189 ?_|refine zF hx1 ?_|(refine zI ?_;intro hlt)|(refine zC ?_ ?_<;>first|intro h|simp)|(refine zG ?_ ?_<;>first|intro h|simp)|refine zE ?_|fail)
   all_goals try exact absurd hlt (by omega)
   all_goals first
    |exact(hres (by assumption)).symm
    |(refine⟨by omega,hCon (by assumption),?_⟩;rw[hno (decide_eq_false (by omega))];exact qaa (nx:=32) (k:=0) (ns:=[]) (ks:=[11,10,9,0,5,3]) [(0,0)] rfl (by simp) (by kernel_rfl))
    |(refine⟨by omega,hCon (by assumption),?_⟩;rw[hyes (decide_eq_true (by omega))];exact qaa (nx:=32) (k:=0) (ns:=[]) (ks:=[11,10,9,0,5,3]) [(0,0)] rfl (by simp) (by kernel_rfl))
    |trace_state
 ·have e:i=l.length:=by omega
  rw[qtg (qte fun j hj=>hC j (by omega))]
  repeat'(first|refine zQ ?_|(refine zI ?_;intro hlt)|(refine zC ?_ ?_<;>first|intro h|simp)|refine zE ?_|fail)
  all_goals first
   |exact absurd hlt (by omega)
   |(rw[←e])
   |trace_state
theorem qDf{l:List Pt}{p:Pt}(h:qok l p=false):qu9 l p=qtf (qvD l p l.length):=by rw[qtg h,qAc h]
theorem qG3{A B:Prop}[Decidable A][Decidable B]:(decide A==decide B)=decide (A↔B):=by by_cases h:A<;>by_cases h':B<;>simp[h,h']
theorem qxT(l:List Pt)(h0:0<l.length)(hl:l.length<1000000000000)(hok:∀q∈l,ptOK q=true)(p:Pt)(hp:ptOK p=true):Contract Tryz.prog 197 [.sl (l.map encPt),.agg (encPt p)] (.ret (.int .i64 (qu9 l p))):=by
 refine zT mix Tryz.func197 Tryz.ntmps197 Tryz.results197 rfl rfl rfl ?_;simp only[qab,Nat.reduceAdd]
 repeat'(first|refine zQ ?_|fail)
 refine qad l.length (fun i=>⟨[(6,.int .i64 i),(0,.sl (l.map encPt)),(5,.bool (qvD l p i)),(3,.op 0 0 0)],[(0,⟨2,true,[encPt p]⟩)],32,53⟩) (fun i=>∀j,j<i→onE (qaf l j) (qaf l (j+1)) p=false) (qaa (nx:=32) (k:=0) (ns:=[]) (ks:=[6,0,5,3]) [(0,0)] rfl (by simp) (by kernel_rfl)) (fun j hj=>absurd hj (by omega)) ?_
 intro i hi hC
 by_cases hlt:i<l.length
 ·have hoa:ptOK (qaf l i)=true:=hok _ (qbh h0 _)
  have hob:ptOK (qaf l (i+1))=true:=hok _ (qbh h0 _)
  have k0:=qcV l h0 hl i
  have k1:Contract Tryz.prog 198 [.sl (l.map encPt),.int .i64 ((i:Int)+1)] (.ret (.agg (encPt (qaf l (i+1))))):=qcV l h0 hl (i+1)
  have hb:=qdH (qaf l i) (qaf l (i+1)) p hoa hob hp
  have ho:=c_rorient (qaf l i) (qaf l (i+1)) p hoa hob hp
  have hnx:qvD l p (i+1)=(qvD l p i ^^upX (qaf l i) (qaf l (i+1)) p):=rfl
  have hCon:onE (qaf l i) (qaf l (i+1)) p=false→∀j,j<i+1→onE (qaf l j) (qaf l (j+1)) p=false:=fun h j hj=>by
   rcases Nat.lt_succ_iff_lt_or_eq.1 hj with h'|rfl
   ·exact hC j h'
   ·exact h
  have hres:onE (qaf l i) (qaf l (i+1)) p=true→qu9 l p=0:=fun h=>qxS (qpW hlt h)
  clear hok h0
  generalize qaf l (i+1)=b at*
  generalize qaf l i=a at*
  have hno:upX a b p=false→qvD l p (i+1)=qvD l p i:=fun h=>by rw[hnx,h,Bool.xor_false]
  have hyes:upX a b p=true→qvD l p (i+1)= !qvD l p i:=fun h=>by rw[hnx,h,Bool.xor_true]
  have hsl:=qDd (n:=crossE a b p)
  unfold upX at hno hyes
  repeat'(first|refine zQ ?_|refine zF k0 ?_|refine zF k1 ?_|refine zF hb ?_|refine zF ho ?_|(refine zC ?_ ?_<;>first|intro h|simp)|(refine zG ?_ ?_<;>first|intro h|simp)|((with_reducible apply qaz);rfl;rfl)|refine zE ?_|fail)
  all_goals try exact absurd hlt (by omega)
  all_goals first
   |exact(hres (by assumption)).symm
   |(have q1:=decide_eq_false_iff_not.1 (qG3.symm.trans ‹(decide (a.x≤p.x)==decide (b.x≤p.x))=false›)
     have q2:=of_decide_eq_true (qG3.symm.trans ‹(decide (signE (crossE a b p)<0)==decide (a.x<b.x))=true›)
     rw[hsl]at q2
     refine⟨by omega,hCon (by assumption),?_⟩;rw[hyes (decide_eq_true ⟨q1,q2⟩)];exact qaa (nx:=32) (k:=0) (ns:=[]) (ks:=[6,0,5,3]) [(0,0)] rfl (by simp) (by kernel_rfl))
   |(have q2:=decide_eq_false_iff_not.1 (qG3.symm.trans ‹(decide (signE (crossE a b p)<0)==decide (a.x<b.x))=false›)
     rw[hsl]at q2
     refine⟨by omega,hCon (by assumption),?_⟩;rw[hno (decide_eq_false fun q=>q2 q.2)];exact qaa (nx:=32) (k:=0) (ns:=[]) (ks:=[6,0,5,3]) [(0,0)] rfl (by simp) (by kernel_rfl))
   |(have q1:=of_decide_eq_true (qG3.symm.trans ‹(decide (a.x≤p.x)==decide (b.x≤p.x))=true›)
     refine⟨by omega,hCon (by assumption),?_⟩;rw[hno (decide_eq_false fun q=>q.1 q1)];exact qaa (nx:=32) (k:=0) (ns:=[]) (ks:=[6,0,5,3]) [(0,0)] rfl (by simp) (by kernel_rfl))
   |trace_state
 ·have e:i=l.length:=by omega
  rw[qDf (qte fun j hj=>hC j (by omega))]
  subst e
  repeat'(first|refine zQ ?_|(refine zC ?_ ?_<;>first|intro h|simp)|refine zE ?_|fail)
  all_goals first
   |exact absurd hlt (by omega)
   |rfl
   |trace_state
end Go.Pv.Geo

import Derived.Test.YtfklpkgdobdbpaaGreatCAT
/- Part of the proofs over YtfklpkgdobdbpaaGreat: PH17, PH18. -/
set_option linter.unusedVariables false
set_option linter.unusedSimpArgs false
set_option linter.unnecessarySimpa false
open Go Go.Proofs Go.Pv
set_option maxHeartbeats 8000000
set_option maxRecDepth 100000
set_option linter.unusedSimpArgs false
set_option linter.unusedVariables false
namespace Go.Pv.Geo
def qrM(b:Bool):Int:=if b=true then 1 else -1
theorem qA5(b:Bool): -1≤qrM b∧qrM b≤1:=by unfold qrM;split<;>omega
theorem qyj(b:Bool):qrM (b ^^true)=0-qrM b:=by cases b<;>rfl
theorem qv3{l:List Pt}{p:Pt}(h:qne l p=true):qtm l p=0:=if_pos h
theorem qrN{l:List Pt}{p:Pt}(h:qne l p=false):qtm l p=qrM (qrK l p l.length):=by
 rw[qtm,if_neg (by rw[h];simp)];rfl
theorem qyk(l:List Pt)(h0:0<l.length)(hl:l.length<1000000000000)(hok:∀q∈l,ptOK q=true)(p:Pt)(hp:ptOK p=true):Contract Tryz.prog 254 [.sl (l.map encPt),.agg (encPt p)] (.ret (.int .i64 (qtm l p))):=by
 refine zT mix Tryz.func254 Tryz.ntmps254 Tryz.results254 rfl rfl rfl ?_;simp only[qac,Nat.reduceAdd]
 repeat'(first|refine zQ ?_|fail)
 refine qaf l.length (fun i=>⟨[(11,.int .i64 i),(10,.int .i64 l.length),(9,.sl (l.map encPt)),(0,.sl (l.map encPt)),(5,.int .i64 (qrM (qrK l p i))),(3,.op 0 0 0)],[(0,⟨2,true,[encPt p]⟩)],32,54⟩) (fun i=>∀j,j<i→onE (qae l j) (qae l (j+1)) p=false) (qaa (nx:=32) (k:=0) (ns:=[]) (ks:=[11,10,9,0,5,3]) [(0,0)] rfl (by simp) (by kernel_rfl)) (fun j hj=>absurd hj (by omega)) ?_
 intro i hi hC
 have hin:=qA5 (qrK l p i)
 by_cases hlt:i<l.length
 ·have ec:=qdt hlt
  have hoa:ptOK l[i]=true:=hok _ (List.getElem_mem hlt)
  have hob:ptOK (qae l (i+1))=true:=hok _ (qa4 h0 _)
  have h188:Contract Tryz.prog 256 [.sl (l.map encPt),.int .i64 ((i:Int)+1)] (.ret (.agg (encPt (qae l (i+1))))):=qhQ l h0 hl (i+1)
  have h189:=qAA l[i] (qae l (i+1)) p hoa hob hp
  have hx1:=qiJ l[i] (qae l (i+1)) p hoa hob hp
  have hx2:=qiJ (qae l (i+1)) l[i] p hob hoa hp
  have hnx:qrM (qrK l p (i+1))=qrM (qrK l p i ^^qgP (qae l i) (qae l (i+1)) p):=rfl
  have hCon:onE (qae l i) (qae l (i+1)) p=false→∀j,j<i+1→onE (qae l j) (qae l (j+1)) p=false:=fun h j hj=>by
   rcases Nat.lt_succ_iff_lt_or_eq.1 hj with h'|rfl
   ·exact hC j h'
   ·exact h
  rw[ec]at hnx hCon
  have hres:onE l[i] (qae l (i+1)) p=true→qtm l p=0:=fun h=>qv3 (qoR hlt (by rw[ec];exact h))
  clear hok h0
  generalize qae l (i+1)=b at*
  have hno:qgP l[i] b p=false→qrM (qrK l p (i+1))=qrM (qrK l p i):=fun h=>by rw[hnx,h,Bool.xor_false]
  have hyes:qgP l[i] b p=true→qrM (qrK l p (i+1))=0-qrM (qrK l p i):=fun h=>by rw[hnx,h,qyj]
  by_cases hsw:b.y<l[i].y
  ·have hr:qgP l[i] b p=decide ((b.y≤p.y∧p.y<l[i].y)∧0<crossE b l[i] p):=by simp only[qgP,if_pos hsw]
   rw[hr]at hno hyes
   repeat'(first|refine zQ ?_|refine zF h188 ?_|refine zF h189 ?_|refine zF hx2 ?_|(refine zI ?_;intro hlt)|(refine zC ?_ ?_<;>first|intro h|simp)|(refine zG ?_ ?_<;>first|intro h|simp)|refine zE ?_|fail)
   all_goals try exact absurd hlt (by omega)
   all_goals first
    |exact(hres (by assumption)).symm
    |(refine⟨by omega,hCon (by assumption),?_⟩;rw[hno (decide_eq_false (by omega))];exact qaa (nx:=32) (k:=0) (ns:=[]) (ks:=[11,10,9,0,5,3]) [(0,0)] rfl (by simp) (by kernel_rfl))
    |(refine⟨by omega,hCon (by assumption),?_⟩;rw[hyes (decide_eq_true (by omega))];exact qaa (nx:=32) (k:=0) (ns:=[]) (ks:=[11,10,9,0,5,3]) [(0,0)] rfl (by simp) (by kernel_rfl))
    |trace_state
  ·have hr:qgP l[i] b p=decide ((l[i].y≤p.y∧p.y<b.y)∧0<crossE l[i] b p):=by simp only[qgP,if_neg hsw]
   rw[hr]at hno hyes
   repeat'(first|refine zQ ?_|refine zF h188 ?_|refine zF h189 ?_|refine zF hx1 ?_|(refine zI ?_;intro hlt)|(refine zC ?_ ?_<;>first|intro h|simp)|(refine zG ?_ ?_<;>first|intro h|simp)|refine zE ?_|fail)
   all_goals try exact absurd hlt (by omega)
   all_goals first
    |exact(hres (by assumption)).symm
    |(refine⟨by omega,hCon (by assumption),?_⟩;rw[hno (decide_eq_false (by omega))];exact qaa (nx:=32) (k:=0) (ns:=[]) (ks:=[11,10,9,0,5,3]) [(0,0)] rfl (by simp) (by kernel_rfl))
    |(refine⟨by omega,hCon (by assumption),?_⟩;rw[hyes (decide_eq_true (by omega))];exact qaa (nx:=32) (k:=0) (ns:=[]) (ks:=[11,10,9,0,5,3]) [(0,0)] rfl (by simp) (by kernel_rfl))
    |trace_state
 ·have e:i=l.length:=by omega
  rw[qrN (qrL fun j hj=>hC j (by omega))]
  repeat'(first|refine zQ ?_|(refine zI ?_;intro hlt)|(refine zC ?_ ?_<;>first|intro h|simp)|refine zE ?_|fail)
  all_goals first
   |exact absurd hlt (by omega)
   |(rw[←e])
   |trace_state
theorem qA6{l:List Pt}{p:Pt}(h:qne l p=false):qtm l p=qrM (qtE l p l.length):=by rw[qrN h,qyi h]
theorem qER{A B:Prop}[Decidable A][Decidable B]:(decide A==decide B)=decide (A↔B):=by by_cases h:A<;>by_cases h':B<;>simp[h,h']
theorem qv4(l:List Pt)(h0:0<l.length)(hl:l.length<1000000000000)(hok:∀q∈l,ptOK q=true)(p:Pt)(hp:ptOK p=true):Contract Tryz.prog 197 [.sl (l.map encPt),.agg (encPt p)] (.ret (.int .i64 (qtm l p))):=by
 refine zT mix Tryz.func197 Tryz.ntmps197 Tryz.results197 rfl rfl rfl ?_;simp only[qac,Nat.reduceAdd]
 repeat'(first|refine zQ ?_|fail)
 refine qaf l.length (fun i=>⟨[(6,.int .i64 i),(0,.sl (l.map encPt)),(5,.bool (qtE l p i)),(3,.op 0 0 0)],[(0,⟨2,true,[encPt p]⟩)],32,53⟩) (fun i=>∀j,j<i→onE (qae l j) (qae l (j+1)) p=false) (qaa (nx:=32) (k:=0) (ns:=[]) (ks:=[6,0,5,3]) [(0,0)] rfl (by simp) (by kernel_rfl)) (fun j hj=>absurd hj (by omega)) ?_
 intro i hi hC
 by_cases hlt:i<l.length
 ·have hoa:ptOK (qae l i)=true:=hok _ (qa4 h0 _)
  have hob:ptOK (qae l (i+1))=true:=hok _ (qa4 h0 _)
  have k0:=qcF l h0 hl i
  have k1:Contract Tryz.prog 198 [.sl (l.map encPt),.int .i64 ((i:Int)+1)] (.ret (.agg (encPt (qae l (i+1))))):=qcF l h0 hl (i+1)
  have hb:=qdp (qae l i) (qae l (i+1)) p hoa hob hp
  have ho:=c_rorient (qae l i) (qae l (i+1)) p hoa hob hp
  have hnx:qtE l p (i+1)=(qtE l p i ^^upX (qae l i) (qae l (i+1)) p):=rfl
  have hCon:onE (qae l i) (qae l (i+1)) p=false→∀j,j<i+1→onE (qae l j) (qae l (j+1)) p=false:=fun h j hj=>by
   rcases Nat.lt_succ_iff_lt_or_eq.1 hj with h'|rfl
   ·exact hC j h'
   ·exact h
  have hres:onE (qae l i) (qae l (i+1)) p=true→qtm l p=0:=fun h=>qv3 (qoR hlt h)
  clear hok h0
  generalize qae l (i+1)=b at*
  generalize qae l i=a at*
  have hno:upX a b p=false→qtE l p (i+1)=qtE l p i:=fun h=>by rw[hnx,h,Bool.xor_false]
  have hyes:upX a b p=true→qtE l p (i+1)= !qtE l p i:=fun h=>by rw[hnx,h,Bool.xor_true]
  have hsl:=qA4 (n:=crossE a b p)
  unfold upX at hno hyes
  repeat'(first|refine zQ ?_|refine zF k0 ?_|refine zF k1 ?_|refine zF hb ?_|refine zF ho ?_|(refine zC ?_ ?_<;>first|intro h|simp)|(refine zG ?_ ?_<;>first|intro h|simp)|((with_reducible apply qaG);rfl;rfl)|refine zE ?_|fail)
  all_goals try exact absurd hlt (by omega)
  all_goals first
   |exact(hres (by assumption)).symm
   |(have q1:=decide_eq_false_iff_not.1 (qER.symm.trans ‹(decide (a.x≤p.x)==decide (b.x≤p.x))=false›)
     have q2:=of_decide_eq_true (qER.symm.trans ‹(decide (signE (crossE a b p)<0)==decide (a.x<b.x))=true›)
     rw[hsl]at q2
     refine⟨by omega,hCon (by assumption),?_⟩;rw[hyes (decide_eq_true ⟨q1,q2⟩)];exact qaa (nx:=32) (k:=0) (ns:=[]) (ks:=[6,0,5,3]) [(0,0)] rfl (by simp) (by kernel_rfl))
   |(have q2:=decide_eq_false_iff_not.1 (qER.symm.trans ‹(decide (signE (crossE a b p)<0)==decide (a.x<b.x))=false›)
     rw[hsl]at q2
     refine⟨by omega,hCon (by assumption),?_⟩;rw[hno (decide_eq_false fun q=>q2 q.2)];exact qaa (nx:=32) (k:=0) (ns:=[]) (ks:=[6,0,5,3]) [(0,0)] rfl (by simp) (by kernel_rfl))
   |(have q1:=of_decide_eq_true (qER.symm.trans ‹(decide (a.x≤p.x)==decide (b.x≤p.x))=true›)
     refine⟨by omega,hCon (by assumption),?_⟩;rw[hno (decide_eq_false fun q=>q.1 q1)];exact qaa (nx:=32) (k:=0) (ns:=[]) (ks:=[6,0,5,3]) [(0,0)] rfl (by simp) (by kernel_rfl))
   |trace_state
 ·have e:i=l.length:=by omega
  rw[qA6 (qrL fun j hj=>hC j (by omega))]
  subst e
  repeat'(first|refine zQ ?_|(refine zC ?_ ?_<;>first|intro h|simp)|refine zE ?_|fail)
  all_goals first
   |exact absurd hlt (by omega)
   |rfl
   |trace_state
def qeq(a b:Pt):List Pt:=[a,⟨b.x,a.y⟩,b,⟨a.x,b.y⟩]
def qrO(a b:Pt):List D:=[.int .i64 a.x,.int .i64 a.y,.int .i64 b.x,.int .i64 a.y,.int .i64 b.x,.int .i64 b.y,.int .i64 a.x,.int .i64 b.y]
theorem qzw{a b:Pt}(ha:ptOK a=true)(hb:ptOK b=true):∀p∈qeq a b,ptOK p=true:=by
 have h1:=qes ha
 have h2:=qes hb
 intro p hp
 simp only[qeq,List.mem_cons,List.not_mem_nil,or_false]at hp
 rcases hp with rfl|rfl|rfl|rfl
 ·exact ha
 ·simp only[ptOK,decide_eq_true_eq];omega
 ·exact hb
 ·simp only[ptOK,decide_eq_true_eq];omega
theorem qES(a b:Pt):qae (qeq a b) 3=⟨a.x,b.y⟩:=by simp[qae,qeq]
theorem qC2(a b:Pt):qae (qeq a b) 4=a:=by simp[qae,qeq]
def qh4(a b p:Pt):Bool:=decide ((a.x≤p.x∧p.x≤b.x)∧a.y≤p.y∧p.y≤b.y)
def qh5(l:List Pt)(a b:Pt)(k:Nat):Bool:=decide (0≤qtm l (qae (qeq a b) k))
def qbO(l:List Pt)(a b:Pt)(i k:Nat):Bool:=qfB (qae l i) (qae l (i+1)) (qae (qeq a b) k) (qae (qeq a b) (k+1))
def touchE(l:List Pt)(a b:Pt):Bool:=((List.range 4).any fun k=>qh5 l a b k)||(List.range l.length).any fun i=>qh4 a b (qae l i)||(List.range 4).any fun k=>qbO l a b i k
theorem qoS{l:List Pt}{a b:Pt}{k:Nat}(hk:k<4)(h:qh5 l a b k=true):touchE l a b=true:=by
 rw[touchE,List.any_eq_true.2 ⟨k,List.mem_range.2 hk,h⟩,Bool.true_or]
theorem qrP{l:List Pt}{a b:Pt}{i:Nat}(hi:i<l.length)(h:qh4 a b (qae l i)=true):touchE l a b=true:=by
 have:((List.range l.length).any fun i=>qh4 a b (qae l i)||(List.range 4).any fun k=>qbO l a b i k)=true:=List.any_eq_true.2 ⟨i,List.mem_range.2 hi,by rw[h,Bool.true_or]⟩
 rw[touchE,this,Bool.or_true]
theorem qoT{l:List Pt}{a b:Pt}{i k:Nat}(hi:i<l.length)(hk:k<4)(h:qbO l a b i k=true):touchE l a b=true:=by
 have:((List.range l.length).any fun i=>qh4 a b (qae l i)||(List.range 4).any fun k=>qbO l a b i k)=true:=List.any_eq_true.2 ⟨i,List.mem_range.2 hi,by rw[List.any_eq_true.2 ⟨k,List.mem_range.2 hk,h⟩,Bool.or_true]⟩
 rw[touchE,this,Bool.or_true]
theorem qrQ{l:List Pt}{a b:Pt}(h1:∀k,k<4→qh5 l a b k=false)(h2:∀i,i<l.length→qh4 a b (qae l i)=false∧∀k,k<4→qbO l a b i k=false):touchE l a b=false:=by
 have e1:((List.range 4).any fun k=>qh5 l a b k)=false:=by
  rw[List.any_eq_false];intro k hk;rw[h1 k (List.mem_range.1 hk)];simp
 have e2:((List.range l.length).any fun i=>qh4 a b (qae l i)||(List.range 4).any fun k=>qbO l a b i k)=false:=by
  rw[List.any_eq_false];intro i hi
  obtain⟨q1,q2⟩:=h2 i (List.mem_range.1 hi)
  have:((List.range 4).any fun k=>qbO l a b i k)=false:=by rw[List.any_eq_false];intro k hk;rw[q2 k (List.mem_range.1 hk)];simp
  rw[q1,this];simp
 rw[touchE,e1,e2];rfl
def touchX(l:List Pt)(a b:Pt):Bool×Int:=
 if polyE l≠0 then(false,polyE l)else if(ptOK a&&ptOK b)=false then(false,2)else if b.x<a.x∨b.y<a.y then(false,9)else(touchE l a b,0)
theorem c_Touches(l:List Pt)(a b:Pt):Contract Tryz.prog 205 [.sl (l.map encPt),.agg (encPt a),.agg (encPt b)] (.ret (.tup [.bool (touchX l a b).1,.int .i64 (touchX l a b).2])):=by
 have hC:=c_CheckPolygon l
 have ho:=qky a b
 by_cases hz:polyE l=0
 rotate_left
 ·have e:touchX l a b=(false,polyE l):=if_pos hz
  rw[e]
  refine zT mix Tryz.func205 Tryz.ntmps205 Tryz.results205 rfl rfl rfl ?_;simp only[qac,Nat.reduceAdd]
  repeat'(first|refine zQ ?_|refine zF hC ?_|(refine zC ?_ ?_<;>first|intro h|simp)|refine zE ?_|fail)
  all_goals first|rfl|(exfalso;omega)
 rw[hz]at hC
 obtain⟨⟨h3,h40⟩,hok,-⟩:=qvo hz
 cases hab:ptOK a&&ptOK b
 ·have e:touchX l a b=(false,2):=by rw[touchX,if_neg (by omega),if_pos hab]
  rw[e]
  rw[hab]at ho
  refine zT mix Tryz.func205 Tryz.ntmps205 Tryz.results205 rfl rfl rfl ?_;simp only[qac,Nat.reduceAdd]
  repeat'(first|((with_reducible apply qad);(exact qbD rfl (by simp) rfl);(exact ho);rfl)|refine zQ ?_|refine zF hC ?_|refine zE ?_|fail)
  all_goals first|rfl|(exfalso;omega)
 rw[hab]at ho
 obtain⟨oa,ob⟩:=ok2 hab
 by_cases hord:b.x<a.x∨b.y<a.y
 ·have e:touchX l a b=(false,9):=by rw[touchX,if_neg (by omega),if_neg (by rw[hab];simp),if_pos hord]
  rw[e]
  refine zT mix Tryz.func205 Tryz.ntmps205 Tryz.results205 rfl rfl rfl ?_;simp only[qac,Nat.reduceAdd]
  repeat'(first|((with_reducible apply qad);(exact qbD rfl (by simp) rfl);(exact ho);rfl)|refine zQ ?_|refine zF hC ?_|(refine zC ?_ ?_<;>first|intro h|simp)|(refine zG ?_ ?_<;>first|intro h|simp)|refine zE ?_|fail)
  all_goals first|rfl|(exfalso;omega)
 have e:touchX l a b=(touchE l a b,0):=by rw[touchX,if_neg (by omega),if_neg (by rw[hab];simp),if_neg hord]
 rw[e]
 have h0:0<l.length:=by omega
 have hbo:=qzw oa ob
 have ins:=fun p hp=>qyk l h0 (by omega) hok p hp
 have i0:=ins a oa
 have i1:=ins ⟨b.x,a.y⟩ (hbo _ (by simp[qeq]))
 have i2:=ins b ob
 have i3:=ins ⟨a.x,b.y⟩ (hbo _ (by simp[qeq]))
 refine zT mix Tryz.func205 Tryz.ntmps205 Tryz.results205 rfl rfl rfl ?_;simp only[qac,Nat.reduceAdd]
 repeat'(first|((with_reducible apply qad);(exact qbD rfl (by simp) rfl);(exact ho);rfl)|refine zQ ?_|refine zF hC ?_|(refine zC ?_ ?_<;>first|intro h|simp)|(refine zG ?_ ?_<;>first|intro h|simp)|refine zE ?_|fail)
 all_goals try(exfalso;omega)
 refine qaf 4 (fun i=>⟨[(50,.int .i64 i),(49,.agg (qrO a b)),(4,.op 0 0 0),(5,.op 1 0 0),(9,.op 2 0 0),(0,.sl (l.map encPt))],[(0,⟨2,true,[encPt a]⟩),(1,⟨2,true,[encPt b]⟩),(2,⟨8,true,[qrO a b]⟩)],32,110⟩) (fun i=>∀k,k<i→k<4→qh5 l a b k=false)
  (qaa (nx:=32) (k:=0) (ns:=[]) (ks:=[50,49,4,5,9,0]) [(0,0),(32,1),(1216,2)] rfl (by simp) (by kernel_rfl)) (by omega) ?_
 intro i hi hC1
 have hc4:i=0∨i=1∨i=2∨i=3∨i=4:=by omega
 have hnext:∀{m:Nat} {p:Pt},(∀k,k<m→k<4→qh5 l a b k=false)→qae (qeq a b) m=p→¬0≤qtm l p→∀k,k<m+1→k<4→qh5 l a b k=false:=fun{m p} h e hp k hk hk4=>by
  rcases Nat.lt_succ_iff_lt_or_eq.1 hk with h'|rfl
  ·exact h k h' hk4
  ·rw[qh5,e];exact decide_eq_false hp
 have hyes:∀{m:Nat} {p:Pt},m<4→qae (qeq a b) m=p→0≤qtm l p→touchE l a b=true:=fun{m p} h e hp=>qoS h (by rw[qh5,e];exact decide_eq_true hp)
 rcases hc4 with rfl|rfl|rfl|rfl|rfl
 ·repeat'(first|refine zQ ?_|refine zF i0 ?_|(refine zC ?_ ?_<;>first|intro h|simp)|refine zE ?_|fail)
  ·rw[hyes (m:=0) (by omega) rfl (by assumption)];rfl
  ·exact⟨by omega,hnext hC1 rfl (by assumption),qaa (nx:=32) (k:=0) (ns:=[]) (ks:=[50,49,4,5,9,0]) [(0,0),(1,1),(2,2)] rfl (by simp) (by kernel_rfl)⟩
 ·repeat'(first|refine zQ ?_|refine zF i1 ?_|(refine zC ?_ ?_<;>first|intro h|simp)|refine zE ?_|fail)
  ·rw[hyes (m:=1) (by omega) rfl (by assumption)];rfl
  ·exact⟨by omega,hnext hC1 rfl (by assumption),qaa (nx:=32) (k:=0) (ns:=[]) (ks:=[50,49,4,5,9,0]) [(0,0),(1,1),(2,2)] rfl (by simp) (by kernel_rfl)⟩
 ·repeat'(first|refine zQ ?_|refine zF i2 ?_|(refine zC ?_ ?_<;>first|intro h|simp)|refine zE ?_|fail)
  ·rw[hyes (m:=2) (by omega) rfl (by assumption)];rfl
  ·exact⟨by omega,hnext hC1 rfl (by assumption),qaa (nx:=32) (k:=0) (ns:=[]) (ks:=[50,49,4,5,9,0]) [(0,0),(1,1),(2,2)] rfl (by simp) (by kernel_rfl)⟩
 ·repeat'(first|refine zQ ?_|refine zF i3 ?_|(refine zC ?_ ?_<;>first|intro h|simp)|refine zE ?_|fail)
  ·rw[hyes (m:=3) (by omega) rfl (by assumption)];rfl
  ·exact⟨by omega,hnext hC1 rfl (by assumption),qaa (nx:=32) (k:=0) (ns:=[]) (ks:=[50,49,4,5,9,0]) [(0,0),(1,1),(2,2)] rfl (by simp) (by kernel_rfl)⟩
 repeat'(first|refine zQ ?_|fail)
 refine qaf l.length (fun i=>⟨[(60,.int .i64 i),(59,.int .i64 l.length),(58,.sl (l.map encPt)),(4,.op 0 0 0),(5,.op 1 0 0),(9,.op 2 0 0),(0,.sl (l.map encPt))],[(0,⟨2,true,[encPt a]⟩),(1,⟨2,true,[encPt b]⟩),(2,⟨8,true,[qrO a b]⟩)],32,110⟩) (fun i=>∀j,j<i→qh4 a b (qae l j)=false∧∀k,k<4→qbO l a b j k=false)
  (qaa (nx:=32) (k:=0) (ns:=[]) (ks:=[60,59,58,4,5,9,0]) [(0,0),(1,1),(2,2)] rfl (by simp) (by kernel_rfl)) (by omega) ?_
 intro i hi hC
 by_cases h2:i<l.length
 rotate_left
 ·rw[qrQ (fun k hk=>hC1 k hk hk) fun j hj=>hC j (by omega)]
  repeat'(first|refine zQ ?_|(refine zI ?_;intro hlt)|(refine zC ?_ ?_<;>first|intro h|simp)|(refine zG ?_ ?_<;>first|intro h|simp)|refine zE ?_|fail)
  all_goals first|(exfalso;omega)|rfl|trace_state
 have ec:=qdt h2
 have o0:ptOK l[i]=true:=hok _ (List.getElem_mem h2)
 have o1:=hok _ (qa4 h0 (i+1))
 have k1:Contract Tryz.prog 256 [.sl (l.map encPt),.int .i64 ((i:Int)+1)] (.ret (.agg (encPt (qae l (i+1))))):=qhQ l h0 (by omega) (i+1)
 have hCi:∀j,j<i→qh4 a b (qae l j)=false∧∀k,k<4→qbO l a b j k=false:=hC
 have hIn:qh4 a b l[i]=true→touchE l a b=true:=fun h=>qrP h2 (by rw[ec];exact h)
 have hEd:∀k,qbO l a b i k=qfB l[i] (qae l (i+1)) (qae (qeq a b) k) (qae (qeq a b) (k+1)):=fun k=>by rw[qbO,ec]
 have m0:=qos l[i] (qae l (i+1)) a ⟨b.x,a.y⟩ o0 o1 oa (hbo _ (by simp[qeq]))
 have m1:=qos l[i] (qae l (i+1)) ⟨b.x,a.y⟩ b o0 o1 (hbo _ (by simp[qeq])) ob
 have m2:=qos l[i] (qae l (i+1)) b ⟨a.x,b.y⟩ o0 o1 ob (hbo _ (by simp[qeq]))
 have m3:=qos l[i] (qae l (i+1)) ⟨a.x,b.y⟩ a o0 o1 (hbo _ (by simp[qeq])) oa
 have hHit:∀k,k<4→qfB l[i] (qae l (i+1)) (qae (qeq a b) k) (qae (qeq a b) (k+1))=true→touchE l a b=true:=fun k hk h=>qoT h2 hk (by rw[hEd];exact h)
 generalize hd:qae l (i+1)=d at*
 repeat'(first|refine zQ ?_|(refine zI ?_;intro hlt)|(refine zC ?_ ?_<;>first|intro h|simp)|(refine zG ?_ ?_<;>first|intro h|simp)|refine zE ?_|fail)
 all_goals first
  |(exfalso;omega)
  |(rw[hIn (decide_eq_true (by omega))];rfl)
  |skip
 all_goals
  have hnb:qh4 a b l[i]=false:=decide_eq_false (by omega)
  refine qaf 4 (fun k=>⟨[(91,.int .i64 k),(13,.op 3 0 0),(12,.int .i64 i),(60,.int .i64 i),(59,.int .i64 l.length),(58,.sl (l.map encPt)),(4,.op 0 0 0),(5,.op 1 0 0),(9,.op 2 0 0),(0,.sl (l.map encPt))],[(0,⟨2,true,[encPt a]⟩),(1,⟨2,true,[encPt b]⟩),(2,⟨8,true,[qrO a b]⟩),(3,⟨2,true,[encPt l[i]]⟩)],32,110⟩) (fun k=>∀k',k'<k→k'<4→qbO l a b i k'=false)
   (qaa (nx:=32) (k:=0) (ns:=[]) (ks:=[91,13,12,60,59,58,4,5,9,0]) [(0,0),(1,1),(2,2),(160,3)] rfl (by simp) (by kernel_rfl)) (by omega) ?_
  intro k hk hC2
  have hcon:∀{m:Nat} {p q:Pt},(∀k',k'<m→k'<4→qbO l a b i k'=false)→qae (qeq a b) m=p→qae (qeq a b) (m+1)=q→qfB l[i] d p q=false→∀k',k'<m+1→k'<4→qbO l a b i k'=false:=fun{m p q} h e1 e2 hm k' hk' hk4=>by
   rcases Nat.lt_succ_iff_lt_or_eq.1 hk' with h'|rfl
   ·exact h k' h' hk4
   ·rw[hEd,e1,e2];exact hm
  have hc4:k=0∨k=1∨k=2∨k=3∨k=4:=by omega
  rcases hc4 with rfl|rfl|rfl|rfl|rfl
  ·repeat'(first|refine zQ ?_|refine zF k1 ?_|refine zF m0 ?_|(refine zC ?_ ?_<;>first|intro h|simp)|refine zE ?_|fail)
   ·rw[hHit 0 (by omega) (by assumption)];rfl
   ·exact⟨by omega,hcon (m:=0) hC2 rfl rfl (by assumption),qaa (nx:=32) (k:=0) (ns:=[]) (ks:=[91,13,12,60,59,58,4,5,9,0]) [(0,0),(1,1),(2,2),(3,3)] rfl (by simp) (by kernel_rfl)⟩
  ·repeat'(first|refine zQ ?_|refine zF k1 ?_|refine zF m1 ?_|(refine zC ?_ ?_<;>first|intro h|simp)|refine zE ?_|fail)
   ·rw[hHit 1 (by omega) (by assumption)];rfl
   ·exact⟨by omega,hcon (m:=1) hC2 rfl rfl (by assumption),qaa (nx:=32) (k:=0) (ns:=[]) (ks:=[91,13,12,60,59,58,4,5,9,0]) [(0,0),(1,1),(2,2),(3,3)] rfl (by simp) (by kernel_rfl)⟩
  ·repeat'(first|refine zQ ?_|refine zF k1 ?_|refine zF m2 ?_|(refine zC ?_ ?_<;>first|intro h|simp)|refine zE ?_|fail)
   ·rw[hHit 2 (by omega) (by assumption)];rfl
   ·exact⟨by omega,hcon (m:=2) hC2 rfl rfl (by assumption),qaa (nx:=32) (k:=0) (ns:=[]) (ks:=[91,13,12,60,59,58,4,5,9,0]) [(0,0),(1,1),(2,2),(3,3)] rfl (by simp) (by kernel_rfl)⟩
  ·repeat'(first|refine zQ ?_|refine zF k1 ?_|refine zF m3 ?_|(refine zC ?_ ?_<;>first|intro h|simp)|refine zE ?_|fail)
   ·rw[hHit 3 (by omega) (by rw[qES,show 3+1=4 from rfl,qC2];assumption)];rfl
   ·exact⟨by omega,hcon (m:=3) (p:=⟨a.x,b.y⟩) (q:=a) hC2 (qES a b) (qC2 a b) (by assumption),qaa (nx:=32) (k:=0) (ns:=[]) (ks:=[91,13,12,60,59,58,4,5,9,0]) [(0,0),(1,1),(2,2),(3,3)] rfl (by simp) (by kernel_rfl)⟩
  ·repeat'(first|refine zQ ?_|fail)
   refine⟨h2,fun j hj=>?_,qaa (nx:=32) (k:=0) (ns:=[]) (ks:=[60,59,58,4,5,9,0]) [(0,0),(1,1),(2,2)] rfl (by simp) (by kernel_rfl)⟩
   rcases Nat.lt_succ_iff_lt_or_eq.1 hj with h'|rfl
   ·exact hCi j h'
   ·exact⟨by rw[ec];exact hnb,fun k' hk'=>hC2 k' hk' hk'⟩
end Go.Pv.Geo

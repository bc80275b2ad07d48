import Derived.Test.YtfklpkgdobdbpaaGreatCAS
/- Part of the proofs over YtfklpkgdobdbpaaGreat: S30. -/
set_option linter.unusedVariables false
set_option linter.unusedSimpArgs false
set_option linter.unnecessarySimpa false
open Go Go.Proofs Go.Pv
set_option maxHeartbeats 8000000
set_option maxRecDepth 100000
set_option linter.unusedSimpArgs false
set_option linter.unusedVariables false
namespace Go.Pv.Soil
theorem qgS{a b q r:Int}(hb:0<b)(h:r+b*q=a)(h0:0≤r)(h1:r<b):a/b=q∧a%b=r:=
 (Int.ediv_emod_unique hb).2 ⟨h,h0,h1⟩
theorem qu5(c i k:Int)(hc:1≤c):(i%c-k%c).natAbs+(i/c-k/c).natAbs=1↔k=i-c∨(k=i-1∧0<i%c)∨(k=i+1∧i%c<c-1)∨k=i+c:=by
 have e1:=Int.emod_add_mul_ediv i c
 have e2:=Int.emod_add_mul_ediv k c
 have l1:=Int.emod_lt_of_pos i (b:=c) (by omega)
 have l2:=Int.emod_lt_of_pos k (b:=c) (by omega)
 have n1:=Int.emod_nonneg i (b:=c) (by omega)
 have n2:=Int.emod_nonneg k (b:=c) (by omega)
 constructor
 ·intro h
  have:(i%c=k%c∧(k/c=i/c+1∨k/c=i/c-1))∨(i/c=k/c∧(k%c=i%c+1∨k%c=i%c-1)):=by omega
  rcases this with⟨h1,h2|h2⟩|⟨h1,h2⟩
  ·rw[h2,Int.mul_add]at e2;omega
  ·rw[h2,Int.mul_sub]at e2;omega
  ·rw[←h1]at e2;omega
 ·intro h
  rcases h with h|⟨h,h'⟩|⟨h,h'⟩|h
  ·obtain⟨h1,h2⟩:=qgS (a:=k) (b:=c) (q:=i/c-1) (r:=i%c) (by omega) (by rw[Int.mul_sub];omega) n1 l1
   omega
  ·obtain⟨h1,h2⟩:=qgS (a:=k) (b:=c) (q:=i/c) (r:=i%c-1) (by omega) (by omega) (by omega) (by omega)
   omega
  ·obtain⟨h1,h2⟩:=qgS (a:=k) (b:=c) (q:=i/c) (r:=i%c+1) (by omega) (by omega) (by omega) (by omega)
   omega
  ·obtain⟨h1,h2⟩:=qgS (a:=k) (b:=c) (q:=i/c+1) (r:=i%c) (by omega) (by rw[Int.mul_add];omega) n1 l1
   omega
theorem qri(g:Grid)(hc:1≤g.cols)(i k:Nat):qbl g i k=true↔((k:Int)=i-g.cols∨((k:Int)=i-1∧0<(i:Int)%g.cols)∨((k:Int)=i+1∧(i:Int)%g.cols<g.cols-1)∨(k:Int)=i+g.cols):=by
 rw[←qu5 g.cols i k hc];simp[qbl]
def qxG(g:Grid)(i:Nat):List Int:=
 (if g.cols≤i then [(i:Int)-g.cols]else [])++(if 0<(i:Int)%g.cols then [(i:Int)-1]else [])++(if(i:Int)%g.cols<g.cols-1 then [(i:Int)+1]else [])++(if(i:Int)+g.cols<g.levels.length then [(i:Int)+g.cols]else [])
theorem qs4(g:Grid)(hc:1≤g.cols)(i:Nat):∀n:Nat,qbi g i n=
  (if g.cols≤i∧(i:Int)-g.cols<n then [(i:Int)-g.cols]else [])++(if 0<(i:Int)%g.cols∧(i:Int)-1<n then [(i:Int)-1]else [])++(if(i:Int)%g.cols<g.cols-1∧(i:Int)+1<n then [(i:Int)+1]else [])++(if(i:Int)+g.cols<n then [(i:Int)+g.cols]else [])
 |0=>by
  have n1:=Int.emod_nonneg i (b:=g.cols) (by omega)
  have n3:=Int.emod_lt_of_pos i (b:=g.cols) (by omega)
  have n2:0<(i:Int)%g.cols→1≤(i:Int):=by
   intro h
   by_cases h0:i=0
   ·subst h0;simp at h
   ·omega
  rw[if_neg (by omega),if_neg (by omega),if_neg (by omega),if_neg (by omega)];rfl
 |n+1=>by
  have ih:=qs4 g hc i n
  have n1:=Int.emod_nonneg i (b:=g.cols) (by omega)
  have n3:=Int.emod_lt_of_pos i (b:=g.cols) (by omega)
  have n2:0<(i:Int)%g.cols→1≤(i:Int):=by
   intro h
   by_cases h0:i=0
   ·subst h0;simp at h
   ·omega
  simp only[qbi,ih]
  have hbi:=qri g hc i n
  generalize (i:Int)%g.cols=m at*
  by_cases hb:qbl g i n=true
  ·rw[if_pos hb]
   rw[hbi]at hb
   rcases hb with hb|⟨hb,hb'⟩|⟨hb,hb'⟩|hb
   all_goals ((repeat' split)<;>first|(exfalso;omega)|(simp only[List.append_nil,List.nil_append,List.append_assoc,List.cons_append,List.cons.injEq,and_true,true_and];omega)|(simp only[List.append_nil,List.nil_append,List.append_assoc,List.cons_append,hb];done))
  ·rw[if_neg hb]
   rw[hbi]at hb
   (repeat' split)<;>first|rfl|(exfalso;omega)
theorem qz5(g:Grid)(hc:1≤g.cols)(i:Nat)(hi:i<g.levels.length)(hw:(i:Int)%g.cols<g.cols-1→(i:Int)+1<g.levels.length):qbi g i g.levels.length=qxG g i:=by
 rw[qs4 g hc]
 unfold qxG
 (repeat' split)<;>first|rfl|(exfalso;omega)
theorem qL6(g:Grid)(h:OkGrid g)(i:Nat)(hi:i<g.levels.length):Contract Tryz.prog 210 [.agg (qag g),.int .i64 i] (.ret (.fr 1 ((qbi g i g.levels.length).map qal))):=by
 have hb:=h.bds
 have hc:=qdn h hi
 have hs:=h.small
 have hn:=qz5 g (by omega) i hi fun hw=>by
  have h1:=Int.emod_add_mul_ediv (i:Int) g.cols
  have h2:=Int.mul_le_mul_of_nonneg_left (show(i:Int)/g.cols+1≤g.rows by omega) (show 0≤g.cols by omega)
  rw[Int.mul_add]at h2
  have h3:=h.len
  omega
 refine zT mix Tryz.func210 Tryz.ntmps210 Tryz.results210 rfl rfl rfl ?_;simp only[qab,Nat.reduceAdd]
 repeat'(first|refine zQ ?_|(refine zC ?_ ?_<;>first|intro h|simp)|fail)
 all_goals try first
  |(refine qcd (qfn (f:=qal) qbL rfl rfl rfl rfl (by kernel_rfl) (by kernel_rfl)) rfl ?_)
  |(refine qaH (f:=qal) qbL rfl rfl rfl rfl rfl rfl (by kernel_rfl) (by kernel_rfl) (by simp) rfl ?_)
 repeat'(first|refine zQ ?_|(refine zC ?_ ?_<;>first|intro h|simp)|fail)
 all_goals try first
  |(refine qcd (qfn (f:=qal) qbL rfl rfl rfl rfl (by kernel_rfl) (by kernel_rfl)) rfl ?_)
  |(refine qaH (f:=qal) qbL rfl rfl rfl rfl rfl rfl (by kernel_rfl) (by kernel_rfl) (by simp) rfl ?_)
 repeat'(first|refine zQ ?_|(refine zC ?_ ?_<;>first|intro h|simp)|fail)
 all_goals try first
  |(refine qcd (qfn (f:=qal) qbL rfl rfl rfl rfl (by kernel_rfl) (by kernel_rfl)) rfl ?_)
  |(refine qaH (f:=qal) qbL rfl rfl rfl rfl rfl rfl (by kernel_rfl) (by kernel_rfl) (by simp) rfl ?_)
 repeat'(first|refine zQ ?_|(refine zC ?_ ?_<;>first|intro h|simp)|fail)
 all_goals try first
  |(refine qcd (qfn (f:=qal) qbL rfl rfl rfl rfl (by kernel_rfl) (by kernel_rfl)) rfl ?_)
  |(refine qaH (f:=qal) qbL rfl rfl rfl rfl rfl rfl (by kernel_rfl) (by kernel_rfl) (by simp) rfl ?_)
 repeat'(first|refine zQ ?_|fail)
 all_goals first
  |(refine qhu rfl rfl rfl ?_;rw[hn];unfold qxG;simp[*];done)
  |(have e:qxG g i=[]:=by unfold qxG;simp[*]
    rw[hn,e];exact qbs (qzg rfl))
  |trace_state
end Go.Pv.Soil

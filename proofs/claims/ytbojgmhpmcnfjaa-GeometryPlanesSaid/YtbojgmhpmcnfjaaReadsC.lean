import Derived.Test.YtbojgmhpmcnfjaaProg
import Derived.Test.YtbojgmhpmcnfjaaGT
import Derived.Test.YtbojgmhpmcnfjaaReads
import Derived.KernelRfl
/- Part of the proofs over Ytbojgmhpmcnfjaa: HR3. -/
set_option linter.unusedVariables false
set_option linter.unusedSimpArgs false
set_option linter.unnecessarySimpa false
open Go Go.Proofs Go.Pv
set_option maxHeartbeats 1000000
set_option maxRecDepth 100000
set_option linter.unusedVariables false
namespace Go.Pv.Geo
theorem i8_bd {n : Int} (h : (Lit.int .i8 n).wf = true) : -128 ≤ n ∧ n ≤ 127 := by
  simp only [Lit.wf, Bool.and_eq_true, decide_eq_true_eq] at h
  exact h
theorem rB3 : Reads Try.prog 73 (fun x : Int × Int × Int => (-128 ≤ x.1 ∧ x.1 ≤ 127) ∧ (-128 ≤ x.2.1 ∧ x.2.1 ≤ 127) ∧ -128 ≤ x.2.2 ∧ x.2.2 ≤ 127) (fun x => [.int .i8 x.1, .int .i8 x.2.1, .int .i8 x.2.2]) :=
  (reads_array (n := 3) (k := 1) Try.underlying73 (reads_int (k := .i8) Try.underlying72 (by kernel_rfl)) (by kernel_rfl) (by kernel_rfl)).map (fun l => (l.getD 0 0, l.getD 1 0, l.getD 2 0))
    (fun l h => by match l, h.1 with | [a, b, c], _ => rfl)
    (fun l h => by
      match l, h with
      | [a, b, c], h =>
        exact ⟨i8_bd (h.2 a (by simp)), i8_bd (h.2 b (by simp)), i8_bd (h.2 c (by simp))⟩) fun _ _ => by kernel_rfl
theorem aPlanes : ReadsA Try.prog [24, 73] (fun x : (Pt × Pt × Pt × Pt) × Int × Int × Int => (-128 ≤ x.2.1 ∧ x.2.1 ≤ 127) ∧ (-128 ≤ x.2.2.1 ∧ x.2.2.1 ≤ 127) ∧ -128 ≤ x.2.2.2 ∧ x.2.2.2 ≤ 127) (fun x => [.agg (encPt x.1.1 ++ encPt x.1.2.1 ++ encPt x.1.2.2.1 ++ encPt x.1.2.2.2), .agg [.int .i8 x.2.1, .int .i8 x.2.2.1, .int .i8 x.2.2.2]]) :=
  (readsA_cons Try.underlying24 rP4 (g := fun x => .agg (encPt x.1 ++ encPt x.2.1 ++ encPt x.2.2.1 ++ encPt x.2.2.2)) (.inr ⟨rfl, fun _ => rfl⟩)
    (readsA_cons Try.underlying73 rB3 (g := fun x => .agg [.int .i8 x.1, .int .i8 x.2.1, .int .i8 x.2.2]) (.inr ⟨rfl, fun _ => rfl⟩) readsA_nil)).map (fun x => (x.1, x.2.1)) (fun _ _ => rfl) (fun _ h => h.2.1)
end Go.Pv.Geo

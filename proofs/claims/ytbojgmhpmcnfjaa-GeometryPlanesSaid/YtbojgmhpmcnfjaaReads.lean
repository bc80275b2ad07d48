import Derived.Test.YtbojgmhpmcnfjaaGE
import Derived.Test.YtbojgmhpmcnfjaaPvC
import Derived.KernelRfl
/- Part of the proofs over Ytbojgmhpmcnfjaa: HR. -/
set_option linter.unusedVariables false
set_option linter.unusedSimpArgs false
set_option linter.unnecessarySimpa false
open Go Go.Proofs Go.Pv
set_option maxHeartbeats 1000000
set_option maxRecDepth 100000
set_option linter.unusedVariables false
namespace Go.Pv.Geo
theorem own : ownKnob Try.prog.godebug = none := by kernel_rfl
theorem laidOut : laidOutB Try.prog = true := by kernel_rfl
theorem rInt : Reads Try.prog 3 I64 (fun n => [.int .i64 n]) := reads_i64 Try.underlying3 (by kernel_rfl)
theorem rPt : Reads Try.prog 23 (fun p : Pt => I64 p.x ∧ I64 p.y) encPt :=
  (reads_struct Try.underlying23 (by kernel_rfl) (readsF_cons (k := 1) rInt (by kernel_rfl) rfl (readsF_cons (k := 1) rInt (by kernel_rfl) rfl readsF_nil))).map
    (fun x => ⟨x.1, x.2.1⟩) (fun _ _ => rfl) (fun _ h => ⟨h.1, h.2.1⟩) fun _ _ => by kernel_rfl
theorem rPts : Reads Try.prog 31 (fun l : List Pt => l.length ≤ maxLen ∧ ∀ a ∈ l, I64 a.x ∧ I64 a.y) (fun l => [.sl (l.map encPt)]) := reads_slice Try.underlying31 rPt (k := 2) (by kernel_rfl) (by decide) (by kernel_rfl)
theorem rTri : Reads Try.prog 47 (fun t : Tri => I64 t.a ∧ I64 t.b ∧ I64 t.c) encTri :=
  (reads_struct Try.underlying47 (by kernel_rfl) (readsF_cons (k := 1) rInt (by kernel_rfl) rfl (readsF_cons (k := 1) rInt (by kernel_rfl) rfl (readsF_cons (k := 1) rInt (by kernel_rfl) rfl readsF_nil)))).map
    (fun x => ⟨x.1, x.2.1, x.2.2.1⟩) (fun _ _ => rfl) (fun _ h => ⟨h.1, h.2.1, h.2.2.1⟩) fun _ _ => by kernel_rfl
theorem rTris : Reads Try.prog 41 (fun l : List Tri => l.length ≤ maxLen ∧ ∀ t ∈ l, I64 t.a ∧ I64 t.b ∧ I64 t.c) (fun l => [.sl (l.map encTri)]) := reads_slice Try.underlying41 rTri (k := 3) (by kernel_rfl) (by decide) (by kernel_rfl)
theorem rP4 : Reads Try.prog 24 (fun x : Pt × Pt × Pt × Pt => (I64 x.1.x ∧ I64 x.1.y) ∧ (I64 x.2.1.x ∧ I64 x.2.1.y) ∧ (I64 x.2.2.1.x ∧ I64 x.2.2.1.y) ∧ I64 x.2.2.2.x ∧ I64 x.2.2.2.y) (fun x => encPt x.1 ++ encPt x.2.1 ++ encPt x.2.2.1 ++ encPt x.2.2.2) :=
  (reads_array (n := 4) (k := 2) Try.underlying24 rPt (by kernel_rfl) (by kernel_rfl)).map (fun l => (l.getD 0 ⟨0, 0⟩, l.getD 1 ⟨0, 0⟩, l.getD 2 ⟨0, 0⟩, l.getD 3 ⟨0, 0⟩))
    (fun l h => by match l, h.1 with | [a, b, c, d], _ => rfl) (fun l h => by match l, h with | [a, b, c, d], h => exact ⟨h.2 a (by simp), h.2 b (by simp), h.2 c (by simp), h.2 d (by simp)⟩) fun _ _ => by kernel_rfl
theorem aP4 : ReadsA Try.prog [24] (fun x : Pt × Pt × Pt × Pt => (I64 x.1.x ∧ I64 x.1.y) ∧ (I64 x.2.1.x ∧ I64 x.2.1.y) ∧ (I64 x.2.2.1.x ∧ I64 x.2.2.1.y) ∧ I64 x.2.2.2.x ∧ I64 x.2.2.2.y) (fun x => [.agg (encPt x.1 ++ encPt x.2.1 ++ encPt x.2.2.1 ++ encPt x.2.2.2)]) :=
  (readsA_cons Try.underlying24 rP4 (g := fun x => .agg (encPt x.1 ++ encPt x.2.1 ++ encPt x.2.2.1 ++ encPt x.2.2.2)) (.inr ⟨rfl, fun _ => rfl⟩) readsA_nil).map (fun x => x.1) (fun _ _ => rfl) (fun _ h => h.1)
theorem aLocates : ReadsA Try.prog [31, 41, 23] (fun x : List Pt × List Tri × Pt => True) (fun x => [.sl (x.1.map encPt), .sl (x.2.1.map encTri), .agg (encPt x.2.2)]) :=
  (readsA_cons Try.underlying31 rPts (g := fun l => .sl (l.map encPt)) (.inl ⟨rfl, fun _ => rfl⟩) (readsA_cons Try.underlying41 rTris (g := fun l => .sl (l.map encTri)) (.inl ⟨rfl, fun _ => rfl⟩)
    (readsA_cons Try.underlying23 rPt (g := fun p => .agg (encPt p)) (.inr ⟨rfl, fun _ => rfl⟩) readsA_nil))).map (fun x => (x.1, x.2.1, x.2.2.1)) (fun _ _ => rfl) (fun _ _ => trivial)
theorem aPoly : ReadsA Try.prog [31, 5] (fun x : List Pt × Int => 0 ≤ x.2 ∧ x.2 ≤ 255) (fun x => [.sl (x.1.map encPt), .int .u8 x.2]) :=
  (readsA_cons Try.underlying31 rPts (g := fun l => .sl (l.map encPt)) (.inl ⟨rfl, fun _ => rfl⟩) (readsA_cons Try.underlying5 (reads_int (k := .u8) Try.underlying5 (by kernel_rfl)) (g := fun n => .int .u8 n) (.inl ⟨rfl, fun _ => rfl⟩) readsA_nil)).map
    (fun x => (x.1, x.2.1)) (fun _ _ => rfl) (fun _ h => by have := h.2.1; simp [Lit.wf] at this; exact this)
end Go.Pv.Geo
namespace Go.Pv.Geo
theorem aTouches : ReadsA Try.prog [31, 23, 23] (fun x : List Pt × Pt × Pt => True) (fun x => [.sl (x.1.map encPt), .agg (encPt x.2.1), .agg (encPt x.2.2)]) :=
  (readsA_cons Try.underlying31 rPts (g := fun l => .sl (l.map encPt)) (.inl ⟨rfl, fun _ => rfl⟩) (readsA_cons Try.underlying23 rPt (g := fun p => .agg (encPt p)) (.inr ⟨rfl, fun _ => rfl⟩)
    (readsA_cons Try.underlying23 rPt (g := fun p => .agg (encPt p)) (.inr ⟨rfl, fun _ => rfl⟩) readsA_nil))).map (fun x => (x.1, x.2.1, x.2.2.1)) (fun _ _ => rfl) (fun _ _ => trivial)
end Go.Pv.Geo
namespace Go.Pv.Geo
theorem aP3 : ReadsA Try.prog [23, 23, 23] (fun x : Pt × Pt × Pt => True) (fun x => [.agg (encPt x.1), .agg (encPt x.2.1), .agg (encPt x.2.2)]) :=
  (readsA_cons Try.underlying23 rPt (g := fun p => .agg (encPt p)) (.inr ⟨rfl, fun _ => rfl⟩) (readsA_cons Try.underlying23 rPt (g := fun p => .agg (encPt p)) (.inr ⟨rfl, fun _ => rfl⟩)
    (readsA_cons Try.underlying23 rPt (g := fun p => .agg (encPt p)) (.inr ⟨rfl, fun _ => rfl⟩) readsA_nil))).map (fun x => (x.1, x.2.1, x.2.2.1)) (fun _ _ => rfl) (fun _ _ => trivial)
theorem aNear : ReadsA Try.prog [31, 23, 3] (fun x : List Pt × Pt × Int => True) (fun x => [.sl (x.1.map encPt), .agg (encPt x.2.1), .int .i64 x.2.2]) :=
  (readsA_cons Try.underlying31 rPts (g := fun l => .sl (l.map encPt)) (.inl ⟨rfl, fun _ => rfl⟩) (readsA_cons Try.underlying23 rPt (g := fun p => .agg (encPt p)) (.inr ⟨rfl, fun _ => rfl⟩)
    (readsA_cons Try.underlying3 rInt (g := fun n => .int .i64 n) (.inl ⟨rfl, fun _ => rfl⟩) readsA_nil))).map (fun x => (x.1, x.2.1, x.2.2.1)) (fun _ _ => rfl) (fun _ _ => trivial)
end Go.Pv.Geo

import Derived.Test.YtbojgmhpmcnfjaaProg
import Derived.Test.YtbojgmhpmcnfjaaGS
import Derived.Test.YtbojgmhpmcnfjaaReads
import Derived.KernelRfl
/- Part of the proofs over Ytbojgmhpmcnfjaa: HR2. -/
set_option linter.unusedVariables false
set_option linter.unusedSimpArgs false
set_option linter.unnecessarySimpa false
open Go Go.Proofs Go.Pv
set_option maxHeartbeats 1000000
set_option maxRecDepth 100000
set_option linter.unusedVariables false
namespace Go.Pv.Geo
theorem rNd : Reads Try.prog 76 (fun p : Nd => I64 p.x ∧ I64 p.y ∧ I64 p.lev) encNd :=
  (reads_struct Try.underlying76 (by kernel_rfl) (readsF_cons (k := 1) rInt (by kernel_rfl) rfl (readsF_cons (k := 1) rInt (by kernel_rfl) rfl (readsF_cons (k := 1) rInt (by kernel_rfl) rfl readsF_nil)))).map
    (fun x => ⟨x.1, x.2.1, x.2.2.1⟩) (fun _ _ => rfl) (fun _ h => ⟨h.1, h.2.1, h.2.2.1⟩) fun _ _ => by kernel_rfl
theorem rNds : Reads Try.prog 60 (fun l : List Nd => l.length ≤ maxLen ∧ ∀ p ∈ l, I64 p.x ∧ I64 p.y ∧ I64 p.lev) (fun l => [.sl (l.map encNd)]) := reads_slice Try.underlying60 rNd (k := 3) (by kernel_rfl) (by decide) (by kernel_rfl)
theorem rWedge : Reads Try.prog 62 (fun x : List Nd × Tri × Pt × Int => True) (fun x => encWedge x.1 x.2.1 x.2.2.1 x.2.2.2) :=
  (reads_struct Try.underlying62 (by kernel_rfl) (readsF_cons (k := 1) rNds (by kernel_rfl) rfl (readsF_cons (k := 3) rTri (by kernel_rfl) rfl (readsF_cons (k := 2) rPt (by kernel_rfl) rfl (readsF_cons (k := 1) rInt (by kernel_rfl) rfl readsF_nil))))).map
    (fun x => (x.1, x.2.1, x.2.2.1, x.2.2.2.1)) (fun _ _ => rfl) (fun _ _ => trivial) fun _ _ => by kernel_rfl
theorem aWedge : ReadsA Try.prog [62] (fun x : List Nd × Tri × Pt × Int => True) (fun x => [.agg (encWedge x.1 x.2.1 x.2.2.1 x.2.2.2)]) :=
  (readsA_cons Try.underlying62 rWedge (g := fun x => .agg (encWedge x.1 x.2.1 x.2.2.1 x.2.2.2)) (.inr ⟨rfl, fun _ => rfl⟩) readsA_nil).map (fun x => x.1) (fun _ _ => rfl) (fun _ _ => trivial)
end Go.Pv.Geo

import Derived.Test.YtdedpndkohfgbaaReads
import Derived.Test.YtdedpndkohfgbaaSJ
import Derived.KernelRfl
/- Part of the proofs over Ytdedpndkohfgbaa: R2. -/
set_option linter.unusedVariables false
set_option linter.unusedSimpArgs false
set_option linter.unnecessarySimpa false
open Go Go.Proofs Go.Pv
set_option maxHeartbeats 1000000
set_option maxRecDepth 100000
set_option linter.unusedVariables false
namespace Go.Pv.Soil

def okMap (m : Grid) : Prop := (I64 m.x ∧ I64 m.y ∧ I64 m.side ∧ I64 m.cols ∧ I64 m.rows) ∧ m.levels.length ≤ maxLen ∧ ∀ x ∈ m.levels, I64 x
theorem rInts : Reads Try.prog 33 (fun l : List Int => l.length ≤ maxLen ∧ ∀ a ∈ l, I64 a) (fun l => [.sl (l.map encInt)]) := reads_slice Try.underlying33 rInt (k := 1) (by kernel_rfl) (by decide) (by kernel_rfl)
theorem rGrid : Reads Try.prog 35 okMap encGrid :=
  (reads_struct Try.underlying35 (by kernel_rfl) (readsF_cons (k := 1) rInt (by kernel_rfl) rfl (readsF_cons (k := 1) rInt (by kernel_rfl) rfl (readsF_cons (k := 1) rInt (by kernel_rfl) rfl (readsF_cons (k := 1) rInt (by kernel_rfl) rfl (readsF_cons (k := 1) rInt (by kernel_rfl) rfl
    (readsF_cons (k := 1) rInts (by kernel_rfl) rfl readsF_nil))))))).map
    (fun x => ⟨x.1, x.2.1, x.2.2.1, x.2.2.2.1, x.2.2.2.2.1, x.2.2.2.2.2.1⟩) (fun _ _ => rfl) (fun _ h => ⟨⟨h.1, h.2.1, h.2.2.1, h.2.2.2.1, h.2.2.2.2.1⟩, h.2.2.2.2.2.1.1, h.2.2.2.2.2.1.2⟩) fun _ _ => by kernel_rfl

theorem aMap : ReadsA Try.prog [25, 35] (fun x : Ground × Grid => okGround x.1 ∧ okMap x.2) (fun x => [.agg (encGround x.1), .agg (encGrid x.2)]) :=
  (readsA_cons Try.underlying25 rGround (g := fun g => .agg (encGround g)) (.inr ⟨rfl, fun _ => rfl⟩) (readsA_cons Try.underlying35 rGrid (g := fun g => .agg (encGrid g)) (.inr ⟨rfl, fun _ => rfl⟩) readsA_nil)).map
    (fun x => (x.1, x.2.1)) (fun _ _ => rfl) (fun _ h => ⟨h.1, h.2.1⟩)
theorem aMaps : ReadsA Try.prog [25, 35, 35] (fun x : Ground × Grid × Grid => okGround x.1 ∧ okMap x.2.1 ∧ okMap x.2.2) (fun x => [.agg (encGround x.1), .agg (encGrid x.2.1), .agg (encGrid x.2.2)]) :=
  (readsA_cons Try.underlying25 rGround (g := fun g => .agg (encGround g)) (.inr ⟨rfl, fun _ => rfl⟩) (readsA_cons Try.underlying35 rGrid (g := fun g => .agg (encGrid g)) (.inr ⟨rfl, fun _ => rfl⟩) (readsA_cons Try.underlying35 rGrid (g := fun g => .agg (encGrid g)) (.inr ⟨rfl, fun _ => rfl⟩) readsA_nil))).map
    (fun x => (x.1, x.2.1, x.2.2.1)) (fun _ _ => rfl) (fun _ h => ⟨h.1, h.2.1, h.2.2.1⟩)
theorem aMapAt : ReadsA Try.prog [25, 35, 73] (fun x : Ground × Grid × (Int × Int) => okGround x.1 ∧ okMap x.2.1) (fun x => [.agg (encGround x.1), .agg (encGrid x.2.1), .agg [.int .i64 x.2.2.1, .int .i64 x.2.2.2]]) :=
  (readsA_cons Try.underlying25 rGround (g := fun g => .agg (encGround g)) (.inr ⟨rfl, fun _ => rfl⟩) (readsA_cons Try.underlying35 rGrid (g := fun g => .agg (encGrid g)) (.inr ⟨rfl, fun _ => rfl⟩) (readsA_cons Try.underlying73 rAt2 (g := fun x => .agg [.int .i64 x.1, .int .i64 x.2]) (.inr ⟨rfl, fun _ => rfl⟩) readsA_nil))).map
    (fun x => (x.1, x.2.1, x.2.2.1)) (fun _ _ => rfl) (fun _ h => ⟨h.1, h.2.1⟩)
end Go.Pv.Soil

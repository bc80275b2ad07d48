import Derived.Test.YtdedpndkohfgbaaReadsB
import Derived.Test.YtdedpndkohfgbaaTA
import Derived.KernelRfl
/- Part of the proofs over Ytdedpndkohfgbaa: R3. -/
set_option linter.unusedVariables false
set_option linter.unusedSimpArgs false
set_option linter.unnecessarySimpa false
open Go Go.Proofs Go.Pv
set_option maxHeartbeats 1000000
set_option maxRecDepth 100000
set_option linter.unusedVariables false
namespace Go.Pv.Soil

def okDig (x : Dig) : Prop := I64 x.a ∧ I64 x.t ∧ I64 x.b ∧ I64 x.d
theorem rDig : Reads Try.prog 109 okDig encDig :=
  (reads_struct Try.underlying109 (by kernel_rfl) (readsF_cons (k := 1) rInt (by kernel_rfl) rfl (readsF_cons (k := 1) rInt (by kernel_rfl) rfl (readsF_cons (k := 1) rInt (by kernel_rfl) rfl (readsF_cons (k := 1) rInt (by kernel_rfl) rfl readsF_nil))))).map
    (fun x => ⟨x.1, x.2.1, x.2.2.1, x.2.2.2.1⟩) (fun _ _ => rfl) (fun _ h => ⟨h.1, h.2.1, h.2.2.1, h.2.2.2.1⟩) fun _ _ => by kernel_rfl
theorem aDigs : ReadsA Try.prog [25, 35, 109] (fun x : Ground × Grid × Dig => okGround x.1 ∧ okMap x.2.1) (fun x => [.agg (encGround x.1), .agg (encGrid x.2.1), .agg (encDig x.2.2)]) :=
  (readsA_cons Try.underlying25 rGround (g := fun g => .agg (encGround g)) (.inr ⟨rfl, fun _ => rfl⟩) (readsA_cons Try.underlying35 rGrid (g := fun g => .agg (encGrid g)) (.inr ⟨rfl, fun _ => rfl⟩) (readsA_cons Try.underlying109 rDig (g := fun g => .agg (encDig g)) (.inr ⟨rfl, fun _ => rfl⟩) readsA_nil))).map
    (fun x => (x.1, x.2.1, x.2.2.1)) (fun _ _ => rfl) (fun _ h => ⟨h.1, h.2.1⟩)
end Go.Pv.Soil

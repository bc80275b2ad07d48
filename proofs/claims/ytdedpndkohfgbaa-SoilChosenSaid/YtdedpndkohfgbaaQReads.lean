import Derived.Test.YtdedpndkohfgbaaProg
import Derived.Test.YtdedpndkohfgbaaQB
import Derived.Test.YtdedpndkohfgbaaQvC
import Derived.KernelRfl
import Derived.Test.YtdedpndkohfgbaaQV
/- Part of the proofs over Ytdedpndkohfgbaa: R0, R4. -/
set_option linter.unusedVariables false
set_option linter.unusedSimpArgs false
set_option linter.unnecessarySimpa false
open Go Go.Proofs Go.Pv
set_option maxHeartbeats 1000000
set_option maxRecDepth 100000
set_option linter.unusedVariables false
namespace Go.Pv.Soil

theorem own : ownKnob Try.prog.godebug = none := by kernel_rfl
theorem laidOut : laidOutB Try.prog = true := by kernel_rfl

def okFrac (x : Int × Int) : Prop := I64 x.1 ∧ I64 x.2
def okSoil (s : Soil) : Prop := s.name.size ≤ maxLen ∧ I64 s.a ∧ I64 s.b ∧ I64 s.r ∧ I64 s.h
def okLayer (l : Layer) : Prop := I64 l.top ∧ l.soil.size ≤ maxLen
def okBor (b : Boring) : Prop := b.name.size ≤ maxLen ∧ I64 b.x ∧ I64 b.y ∧ b.layers.length ≤ maxLen ∧ ∀ l ∈ b.layers, okLayer l
def okGround (g : Ground) : Prop := (g.soils.length ≤ maxLen ∧ ∀ s ∈ g.soils, okSoil s) ∧ g.borings.length ≤ maxLen ∧ ∀ b ∈ g.borings, okBor b

theorem rInt : Reads Try.prog 3 I64 (fun n => [.int .i64 n]) := reads_i64 Try.underlying3 (by kernel_rfl)
theorem rStr : Reads Try.prog 9 (fun s : ByteArray => s.size ≤ maxLen) (fun s => [.str s]) := reads_str Try.underlying9 (by kernel_rfl)
theorem rSoil : Reads Try.prog 49 okSoil encSoil :=
  (reads_struct Try.underlying49 (by kernel_rfl) (readsF_cons (k := 1) rStr (by kernel_rfl) rfl (readsF_cons (k := 1) rInt (by kernel_rfl) rfl (readsF_cons (k := 1) rInt (by kernel_rfl) rfl
    (readsF_cons (k := 2) (reads_struct Try.underlying47 (by kernel_rfl) (readsF_cons (k := 1) rInt (by kernel_rfl) rfl (readsF_cons (k := 1) rInt (by kernel_rfl) rfl readsF_nil))) (by kernel_rfl) rfl readsF_nil))))).map
    (fun x => ⟨x.1, x.2.1, x.2.2.1, x.2.2.2.1.1, x.2.2.2.1.2.1⟩) (fun _ _ => rfl) (fun _ h => ⟨h.1, h.2.1, h.2.2.1, h.2.2.2.1.1, h.2.2.2.1.2.1⟩) fun _ _ => by kernel_rfl
theorem rSoils : Reads Try.prog 22 (fun l : List Soil => l.length ≤ maxLen ∧ ∀ a ∈ l, okSoil a) (fun l => [.sl (l.map encSoil)]) := reads_slice Try.underlying22 rSoil (k := 5) (by kernel_rfl) (by decide) (by kernel_rfl)
theorem rLayer : Reads Try.prog 142 okLayer encLayer :=
  (reads_struct Try.underlying142 (by kernel_rfl) (readsF_cons (k := 1) rInt (by kernel_rfl) rfl (readsF_cons (k := 1) rStr (by kernel_rfl) rfl readsF_nil))).map
    (fun x => ⟨x.1, x.2.1⟩) (fun _ _ => rfl) (fun _ h => ⟨h.1, h.2.1⟩) fun _ _ => by kernel_rfl
theorem rLayers : Reads Try.prog 138 (fun l : List Layer => l.length ≤ maxLen ∧ ∀ a ∈ l, okLayer a) (fun l => [.sl (l.map encLayer)]) := reads_slice Try.underlying138 rLayer (k := 2) (by kernel_rfl) (by decide) (by kernel_rfl)
theorem rBor : Reads Try.prog 140 okBor encBor :=
  (reads_struct Try.underlying140 (by kernel_rfl) (readsF_cons (k := 1) rStr (by kernel_rfl) rfl (readsF_cons (k := 1) rInt (by kernel_rfl) rfl (readsF_cons (k := 1) rInt (by kernel_rfl) rfl (readsF_cons (k := 1) rLayers (by kernel_rfl) rfl readsF_nil))))).map
    (fun x => ⟨x.1, x.2.1, x.2.2.1, x.2.2.2.1⟩) (fun _ _ => rfl) (fun _ h => ⟨h.1, h.2.1, h.2.2.1, h.2.2.2.1.1, h.2.2.2.1.2⟩) fun _ _ => by kernel_rfl
theorem rBors : Reads Try.prog 23 (fun l : List Boring => l.length ≤ maxLen ∧ ∀ a ∈ l, okBor a) (fun l => [.sl (l.map encBor)]) := reads_slice Try.underlying23 rBor (k := 4) (by kernel_rfl) (by decide) (by kernel_rfl)
theorem rGround : Reads Try.prog 25 okGround encGround :=
  (reads_struct Try.underlying25 (by kernel_rfl) (readsF_cons (k := 1) rSoils (by kernel_rfl) rfl (readsF_cons (k := 1) rBors (by kernel_rfl) rfl readsF_nil))).map
    (fun x => ⟨x.1, x.2.1⟩) (fun _ _ => rfl) (fun _ h => ⟨h.1, h.2.1.1, h.2.1.2⟩) fun _ _ => by kernel_rfl

theorem aGround : ReadsA Try.prog [25] okGround (fun g => [.agg (encGround g)]) :=
  (readsA_cons Try.underlying25 rGround (g := fun g => .agg (encGround g)) (.inr ⟨rfl, fun _ => rfl⟩) readsA_nil).map (fun x => x.1) (fun _ _ => rfl) (fun _ h => h.1)

theorem aSoilII : ReadsA Try.prog [49, 3, 3] (fun x : Soil × Int × Int => okSoil x.1 ∧ I64 x.2.1 ∧ I64 x.2.2) (fun x => [.agg (encSoil x.1), .int .i64 x.2.1, .int .i64 x.2.2]) :=
  (readsA_cons Try.underlying49 rSoil (g := fun s => .agg (encSoil s)) (.inr ⟨rfl, fun _ => rfl⟩) (readsA_cons Try.underlying3 rInt (g := fun n => .int .i64 n) (.inl ⟨rfl, fun _ => rfl⟩)
    (readsA_cons Try.underlying3 rInt (g := fun n => .int .i64 n) (.inl ⟨rfl, fun _ => rfl⟩) readsA_nil))).map (fun x => (x.1, x.2.1, x.2.2.1)) (fun _ _ => rfl) (fun _ h => ⟨h.1, h.2.1, h.2.2.1⟩)

theorem rPt : Reads Try.prog 62 (fun p : Pt => I64 p.x ∧ I64 p.y) encPt :=
  (reads_struct Try.underlying62 (by kernel_rfl) (readsF_cons (k := 1) rInt (by kernel_rfl) rfl (readsF_cons (k := 1) rInt (by kernel_rfl) rfl readsF_nil))).map
    (fun x => ⟨x.1, x.2.1⟩) (fun _ _ => rfl) (fun _ h => ⟨h.1, h.2.1⟩) fun _ _ => by kernel_rfl
theorem rAt2 : Reads Try.prog 73 (fun x : Int × Int => I64 x.1 ∧ I64 x.2) (fun x => [.int .i64 x.1, .int .i64 x.2]) :=
  (reads_array (n := 2) (k := 1) Try.underlying73 rInt (by kernel_rfl) (by kernel_rfl)).map (fun l => (l.getD 0 0, l.getD 1 0))
    (fun l h => by match l, h.1 with | [a, b], _ => rfl) (fun l h => by match l, h with | [a, b], h => exact ⟨h.2 a (by simp), h.2 b (by simp)⟩) fun _ _ => by kernel_rfl
theorem rAt3 : Reads Try.prog 63 (fun x : Int × Int × Int => I64 x.1 ∧ I64 x.2.1 ∧ I64 x.2.2) (fun x => [.int .i64 x.1, .int .i64 x.2.1, .int .i64 x.2.2]) :=
  (reads_array (n := 3) (k := 1) Try.underlying63 rInt (by kernel_rfl) (by kernel_rfl)).map (fun l => (l.getD 0 0, l.getD 1 0, l.getD 2 0))
    (fun l h => by match l, h.1 with | [a, b, c], _ => rfl) (fun l h => by match l, h with | [a, b, c], h => exact ⟨h.2 a (by simp), h.2 b (by simp), h.2 c (by simp)⟩) fun _ _ => by kernel_rfl
theorem aPlaces : ReadsA Try.prog [25, 62, 73] (fun x : Ground × Pt × (Int × Int) => okGround x.1) (fun x => [.agg (encGround x.1), .agg (encPt x.2.1), .agg [.int .i64 x.2.2.1, .int .i64 x.2.2.2]]) :=
  (readsA_cons Try.underlying25 rGround (g := fun g => .agg (encGround g)) (.inr ⟨rfl, fun _ => rfl⟩) (readsA_cons Try.underlying62 rPt (g := fun p => .agg (encPt p)) (.inr ⟨rfl, fun _ => rfl⟩)
    (readsA_cons Try.underlying73 rAt2 (g := fun x => .agg [.int .i64 x.1, .int .i64 x.2]) (.inr ⟨rfl, fun _ => rfl⟩) readsA_nil))).map (fun x => (x.1, x.2.1, x.2.2.1)) (fun _ _ => rfl) (fun _ h => h.1)
theorem aColumns : ReadsA Try.prog [25, 62, 63] (fun x : Ground × Pt × (Int × Int × Int) => okGround x.1 ∧ I64 x.2.2.2.2) (fun x => [.agg (encGround x.1), .agg (encPt x.2.1), .agg [.int .i64 x.2.2.1, .int .i64 x.2.2.2.1, .int .i64 x.2.2.2.2]]) :=
  (readsA_cons Try.underlying25 rGround (g := fun g => .agg (encGround g)) (.inr ⟨rfl, fun _ => rfl⟩) (readsA_cons Try.underlying62 rPt (g := fun p => .agg (encPt p)) (.inr ⟨rfl, fun _ => rfl⟩)
    (readsA_cons Try.underlying63 rAt3 (g := fun x => .agg [.int .i64 x.1, .int .i64 x.2.1, .int .i64 x.2.2]) (.inr ⟨rfl, fun _ => rfl⟩) readsA_nil))).map (fun x => (x.1, x.2.1, x.2.2.1)) (fun _ _ => rfl) (fun _ h => ⟨h.1, h.2.2.1.2.2⟩)

end Go.Pv.Soil

open Go Go.Proofs Go.Pv
set_option maxHeartbeats 1000000
set_option maxRecDepth 100000
set_option linter.unusedVariables false
namespace Go.Pv.Soil
def okSample (s : Sample) : Prop := s.name.size ≤ maxLen ∧ s.sub.size ≤ maxLen ∧ I64 s.x ∧ I64 s.y ∧ I64 s.top ∧ I64 s.bottom ∧ I64 s.value
theorem rSample : Reads Try.prog 106 okSample encSample :=
  (reads_struct Try.underlying106 (by kernel_rfl) (readsF_cons (k := 1) rStr (by kernel_rfl) rfl (readsF_cons (k := 1) rStr (by kernel_rfl) rfl (readsF_cons (k := 1) rInt (by kernel_rfl) rfl (readsF_cons (k := 1) rInt (by kernel_rfl) rfl (readsF_cons (k := 1) rInt (by kernel_rfl) rfl
    (readsF_cons (k := 1) rInt (by kernel_rfl) rfl (readsF_cons (k := 1) rInt (by kernel_rfl) rfl readsF_nil)))))))).map
    (fun x => ⟨x.1, x.2.1, x.2.2.1, x.2.2.2.1, x.2.2.2.2.1, x.2.2.2.2.2.1, x.2.2.2.2.2.2.1⟩) (fun _ _ => rfl) (fun _ h => ⟨h.1, h.2.1, h.2.2.1, h.2.2.2.1, h.2.2.2.2.1, h.2.2.2.2.2.1, h.2.2.2.2.2.2.1⟩) fun _ _ => by kernel_rfl
theorem rSamples : Reads Try.prog 96 (fun l : List Sample => l.length ≤ maxLen ∧ ∀ s ∈ l, okSample s) (fun l => [.sl (l.map encSample)]) := reads_slice Try.underlying96 rSample (k := 7) (by kernel_rfl) (by decide) (by kernel_rfl)
theorem rGPt : Reads Try.prog 62 (fun p : Geo.Pt => I64 p.x ∧ I64 p.y) Geo.encPt :=
  (reads_struct Try.underlying62 (by kernel_rfl) (readsF_cons (k := 1) rInt (by kernel_rfl) rfl (readsF_cons (k := 1) rInt (by kernel_rfl) rfl readsF_nil))).map
    (fun x => ⟨x.1, x.2.1⟩) (fun _ _ => rfl) (fun _ h => ⟨h.1, h.2.1⟩) fun _ _ => by kernel_rfl
theorem rGPts : Reads Try.prog 97 (fun l : List Geo.Pt => l.length ≤ maxLen ∧ ∀ p ∈ l, I64 p.x ∧ I64 p.y) (fun l => [.sl (l.map Geo.encPt)]) := reads_slice Try.underlying97 rGPt (k := 2) (by kernel_rfl) (by decide) (by kernel_rfl)
theorem rArea : Reads Try.prog 99 (fun x : List Geo.Pt × Int × Int => True) (fun x => encArea x.1 x.2.1 x.2.2) :=
  (reads_struct Try.underlying99 (by kernel_rfl) (readsF_cons (k := 1) rGPts (by kernel_rfl) rfl (readsF_cons (k := 1) rInt (by kernel_rfl) rfl (readsF_cons (k := 1) rInt (by kernel_rfl) rfl readsF_nil)))).map
    (fun x => (x.1, x.2.1, x.2.2.1)) (fun _ _ => rfl) (fun _ _ => trivial) fun _ _ => by kernel_rfl
theorem aArea : ReadsA Try.prog [96, 99] (fun x : List Sample × List Geo.Pt × Int × Int => x.1.length ≤ 9223372036854775807) (fun x => [.sl (x.1.map encSample), .agg (encArea x.2.1 x.2.2.1 x.2.2.2)]) :=
  (readsA_cons Try.underlying96 rSamples (g := fun l => .sl (l.map encSample)) (.inl ⟨rfl, fun _ => rfl⟩) (readsA_cons Try.underlying99 rArea (g := fun x => .agg (encArea x.1 x.2.1 x.2.2)) (.inr ⟨rfl, fun _ => rfl⟩) readsA_nil)).map
    (fun x => (x.1, x.2.1)) (fun _ _ => rfl) (fun _ h => Nat.le_trans h.1.1 (by decide))
end Go.Pv.Soil

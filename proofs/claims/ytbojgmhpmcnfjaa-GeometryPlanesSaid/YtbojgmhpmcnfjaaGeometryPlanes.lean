import Derived.Test.YtbojgmhpmcnfjaaGT
import Derived.Test.YtbojgmhpmcnfjaaReadsC
import Derived.Test.YtbojgmhpmcnfjaaRows
import Derived.JoinedOf
import Derived.KernelRfl
/- Part of the proofs over Ytbojgmhpmcnfjaa: L12g. -/
set_option linter.unusedVariables false
set_option linter.unusedSimpArgs false
set_option linter.unnecessarySimpa false
open Go Go.Proofs Go.Pv
/- The law GeometryPlanes: for every input the call returns true and the arguments read as before. No conditions. -/
set_option maxHeartbeats 1000000
set_option maxRecDepth 100000
set_option linter.unusedVariables false
namespace Go.Pv.Geo

theorem lifted12 (os : Os) (started : os.Started) (H : Type) (enc : TypeId × Value → H) :
    ReturnsInHanded {} Try.checked os 12 .any (Go.Proofs.Ytbojgmhpmcnfjaa.Rows.geometryPlanesSpec.pre6 enc Try.prog Try.f12 Go.Proofs.Ytbojgmhpmcnfjaa.Rows.geometryPlanesRow.domain false) (Go.Proofs.Ytbojgmhpmcnfjaa.Rows.geometryPlanesSpec.post enc Try.prog Try.f12 false true false false) := by
  refine returnsInHanded_of_change (C := Try.checked) own started (by kernel_rfl) Try.func12
    (ChangeSpec.witness6 (enc := enc) (C := Try.checked) false ⟨#[], #[.agg #[.int .i64 0, .int .i64 0, .int .i64 0, .int .i64 0, .int .i64 0, .int .i64 0, .int .i64 0, .int .i64 0], .agg #[.int .i8 0, .int .i8 0, .int .i8 0]], []⟩ 8 (by kernel_rfl) (by kernel_rfl) (by kernel_rfl) (by kernel_rfl)) ?_
  intro W base args ds gs before hval hW _ _
  refine law_frame (tb := 4) rfl (by rw [Try.params12]; exact aPlanes) (fun ds h => ?_) (by kernel_rfl) Try.underlying4 laidOut (by rw [Try.params12]; kernel_rfl) (fun (x : (Pt × Pt × Pt × Pt) × Int × Int × Int) (h : (-128 ≤ x.2.1 ∧ x.2.1 ≤ 127) ∧ (-128 ≤ x.2.2.1 ∧ x.2.2.1 ≤ 127) ∧ -128 ≤ x.2.2.2 ∧ x.2.2.2 ≤ 127) => c12 x.1.1 x.1.2.1 x.1.2.2.1 x.1.2.2.2 x.2.1 x.2.2.1 x.2.2.2 h.1 h.2.1 h.2.2) W base args ds gs before hval hW
  rw [Try.params12] at h
  match ds, h with
  | [d0, d1], _ => rfl

theorem closed12 : joinedFacts Try.prog 12 Try.f12 Go.Proofs.Ytbojgmhpmcnfjaa.Rows.geometryPlanesSpec Go.Proofs.Ytbojgmhpmcnfjaa.Rows.geometryPlanesRow = true := by
  unfold joinedFacts
  simp only [Bool.and_eq_true]
  repeat' apply And.intro
  all_goals (as_aux_lemma => kernel_rfl)

theorem over12 : Go.Proofs.Ytbojgmhpmcnfjaa.Rows.geometryPlanesRow.holds Go.Proofs.Ytbojgmhpmcnfjaa.Try.pinned (OpenSpec.ofChange Go.Proofs.Ytbojgmhpmcnfjaa.Rows.geometryPlanesSpec) :=
  OpenClaim.holds_of_wide 12 Try.f12 rfl rfl rfl rfl rfl rfl rfl ⟨rfl, rfl, rfl, rfl, rfl⟩ rfl rfl rfl rfl rfl (by as_aux_lemma => kernel_rfl) Try.func12 closed12
    (of_decide_eq_true (by as_aux_lemma => kernel_rfl)) (by unfold Func.isWrapper; first | (rw [if_pos (by decide +kernel)]; as_aux_lemma => kernel_rfl) | (rw [if_neg (by decide +kernel)]; exact ⟨rfl, rfl⟩))
    (fun os started H enc _ => lifted12 os started H enc)
end Go.Pv.Geo
namespace Go.Proofs.Ytbojgmhpmcnfjaa
theorem geometryPlanes_holds : Rows.GeometryPlanesSaid := Go.Pv.Geo.over12
end Go.Proofs.Ytbojgmhpmcnfjaa

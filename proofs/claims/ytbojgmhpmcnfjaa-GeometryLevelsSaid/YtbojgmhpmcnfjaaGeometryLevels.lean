import Derived.Test.YtbojgmhpmcnfjaaGS
import Derived.Test.YtbojgmhpmcnfjaaReadsB
import Derived.Test.YtbojgmhpmcnfjaaRows
import Derived.JoinedOf
import Derived.KernelRfl
/- Part of the proofs over Ytbojgmhpmcnfjaa: L11g. -/
set_option linter.unusedVariables false
set_option linter.unusedSimpArgs false
set_option linter.unnecessarySimpa false
open Go Go.Proofs Go.Pv
/- The law GeometryLevels: for every input the call returns true and the arguments read as before. No conditions. -/
set_option maxHeartbeats 1000000
set_option maxRecDepth 100000
set_option linter.unusedVariables false
namespace Go.Pv.Geo

theorem lifted11 (os : Os) (started : os.Started) (H : Type) (enc : TypeId × Value → H) :
    ReturnsInHanded {} Try.checked os 11 .any (Go.Proofs.Ytbojgmhpmcnfjaa.Rows.geometryLevelsSpec.pre6 enc Try.prog Try.f11 Go.Proofs.Ytbojgmhpmcnfjaa.Rows.geometryLevelsRow.domain false) (Go.Proofs.Ytbojgmhpmcnfjaa.Rows.geometryLevelsSpec.post enc Try.prog Try.f11 false true false false) := by
  refine returnsInHanded_of_change (C := Try.checked) own started (by kernel_rfl) Try.func11
    (ChangeSpec.witness6 (enc := enc) (C := Try.checked) false ⟨#[], #[.agg #[.slice none 0 0, .int .i64 0, .int .i64 0, .int .i64 0, .int .i64 0, .int .i64 0, .int .i64 0]], []⟩ 8 (by kernel_rfl) (by kernel_rfl) (by kernel_rfl) (by kernel_rfl)) ?_
  intro W base args ds gs before hval hW _ _
  refine law_frame (tb := 4) rfl (by rw [Try.params11]; exact aWedge) (fun ds h => ?_) (by kernel_rfl) Try.underlying4 laidOut (by rw [Try.params11]; kernel_rfl) (fun (x : List Nd × Tri × Pt × Int) _ => c11 x.1 x.2.1 x.2.2.1 x.2.2.2) W base args ds gs before hval hW
  rw [Try.params11] at h
  match ds, h with
  | [d0], _ => rfl

theorem closed11 : joinedFacts Try.prog 11 Try.f11 Go.Proofs.Ytbojgmhpmcnfjaa.Rows.geometryLevelsSpec Go.Proofs.Ytbojgmhpmcnfjaa.Rows.geometryLevelsRow = true := by
  unfold joinedFacts
  simp only [Bool.and_eq_true]
  repeat' apply And.intro
  all_goals (as_aux_lemma => kernel_rfl)

theorem over11 : Go.Proofs.Ytbojgmhpmcnfjaa.Rows.geometryLevelsRow.holds Go.Proofs.Ytbojgmhpmcnfjaa.Try.pinned (OpenSpec.ofChange Go.Proofs.Ytbojgmhpmcnfjaa.Rows.geometryLevelsSpec) :=
  OpenClaim.holds_of_wide 11 Try.f11 rfl rfl rfl rfl rfl rfl rfl ⟨rfl, rfl, rfl, rfl, rfl⟩ rfl rfl rfl rfl rfl (by as_aux_lemma => kernel_rfl) Try.func11 closed11
    (of_decide_eq_true (by as_aux_lemma => kernel_rfl)) (by unfold Func.isWrapper; first | (rw [if_pos (by decide +kernel)]; as_aux_lemma => kernel_rfl) | (rw [if_neg (by decide +kernel)]; exact ⟨rfl, rfl⟩))
    (fun os started H enc _ => lifted11 os started H enc)
end Go.Pv.Geo
namespace Go.Proofs.Ytbojgmhpmcnfjaa
theorem geometryLevels_holds : Rows.GeometryLevelsSaid := Go.Pv.Geo.over11
end Go.Proofs.Ytbojgmhpmcnfjaa

import Derived.Test.YtbojgmhpmcnfjaaGO
import Derived.Test.YtbojgmhpmcnfjaaReads
import Derived.Test.YtbojgmhpmcnfjaaRows
import Derived.JoinedOf
import Derived.KernelRfl
/- Part of the proofs over Ytbojgmhpmcnfjaa: L17g. -/
set_option linter.unusedVariables false
set_option linter.unusedSimpArgs false
set_option linter.unnecessarySimpa false
open Go Go.Proofs Go.Pv
/- The law GeometryOffsets: for every input the call returns true and the arguments read as before. No conditions. -/
set_option maxHeartbeats 1000000
set_option maxRecDepth 100000
set_option linter.unusedVariables false
namespace Go.Pv.Geo

theorem lifted17 (os : Os) (started : os.Started) (H : Type) (enc : TypeId × Value → H) :
    ReturnsInHanded {} Try.checked os 17 .any (Go.Proofs.Ytbojgmhpmcnfjaa.Rows.geometryOffsetsSpec.pre6 enc Try.prog Try.f17 Go.Proofs.Ytbojgmhpmcnfjaa.Rows.geometryOffsetsRow.domain false) (Go.Proofs.Ytbojgmhpmcnfjaa.Rows.geometryOffsetsSpec.post enc Try.prog Try.f17 false true false false) := by
  refine returnsInHanded_of_change (C := Try.checked) own started (by kernel_rfl) Try.func17
    (ChangeSpec.witness6 (enc := enc) (C := Try.checked) false ⟨#[], #[.agg #[.int .i64 0, .int .i64 0], .agg #[.int .i64 0, .int .i64 0], .agg #[.int .i64 0, .int .i64 0]], []⟩ 8 (by kernel_rfl) (by kernel_rfl) (by kernel_rfl) (by kernel_rfl)) ?_
  intro W base args ds gs before hval hW _ _
  refine law_frame (tb := 4) rfl (by rw [Try.params17]; exact aP3) (fun ds h => ?_) (by kernel_rfl) Try.underlying4 laidOut (by rw [Try.params17]; kernel_rfl) (fun (x : Pt × Pt × Pt) _ => c17 x.1 x.2.1 x.2.2) W base args ds gs before hval hW
  rw [Try.params17] at h
  match ds, h with
  | [d0, d1, d2], _ => rfl

theorem closed17 : joinedFacts Try.prog 17 Try.f17 Go.Proofs.Ytbojgmhpmcnfjaa.Rows.geometryOffsetsSpec Go.Proofs.Ytbojgmhpmcnfjaa.Rows.geometryOffsetsRow = true := by
  unfold joinedFacts
  simp only [Bool.and_eq_true]
  repeat' apply And.intro
  all_goals (as_aux_lemma => kernel_rfl)

theorem over17 : Go.Proofs.Ytbojgmhpmcnfjaa.Rows.geometryOffsetsRow.holds Go.Proofs.Ytbojgmhpmcnfjaa.Try.pinned (OpenSpec.ofChange Go.Proofs.Ytbojgmhpmcnfjaa.Rows.geometryOffsetsSpec) :=
  OpenClaim.holds_of_wide 17 Try.f17 rfl rfl rfl rfl rfl rfl rfl ⟨rfl, rfl, rfl, rfl, rfl⟩ rfl rfl rfl rfl rfl (by as_aux_lemma => kernel_rfl) Try.func17 closed17
    (of_decide_eq_true (by as_aux_lemma => kernel_rfl)) (by unfold Func.isWrapper; first | (rw [if_pos (by decide +kernel)]; as_aux_lemma => kernel_rfl) | (rw [if_neg (by decide +kernel)]; exact ⟨rfl, rfl⟩))
    (fun os started H enc _ => lifted17 os started H enc)
end Go.Pv.Geo
namespace Go.Proofs.Ytbojgmhpmcnfjaa
theorem geometryOffsets_holds : Rows.GeometryOffsetsSaid := Go.Pv.Geo.over17
end Go.Proofs.Ytbojgmhpmcnfjaa

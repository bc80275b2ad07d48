import Derived.Test.YtbojgmhpmcnfjaaGP
import Derived.Test.YtbojgmhpmcnfjaaReads
import Derived.Test.YtbojgmhpmcnfjaaRows
import Derived.JoinedOf
import Derived.KernelRfl
/- Part of the proofs over Ytbojgmhpmcnfjaa: L18g. -/
set_option linter.unusedVariables false
set_option linter.unusedSimpArgs false
set_option linter.unnecessarySimpa false
open Go Go.Proofs Go.Pv
/- The law GeometryInside: for every input the call returns true and the arguments read as before. No conditions. -/
set_option maxHeartbeats 1000000
set_option maxRecDepth 100000
set_option linter.unusedVariables false
namespace Go.Pv.Geo

theorem lifted18 (os : Os) (started : os.Started) (H : Type) (enc : TypeId × Value → H) :
    ReturnsInHanded {} Try.checked os 18 .any (Go.Proofs.Ytbojgmhpmcnfjaa.Rows.geometryInsideSpec.pre6 enc Try.prog Try.f18 Go.Proofs.Ytbojgmhpmcnfjaa.Rows.geometryInsideRow.domain false) (Go.Proofs.Ytbojgmhpmcnfjaa.Rows.geometryInsideSpec.post enc Try.prog Try.f18 false true false false) := by
  refine returnsInHanded_of_change (C := Try.checked) own started (by kernel_rfl) Try.func18
    (ChangeSpec.witness6 (enc := enc) (C := Try.checked) false ⟨#[], #[.slice none 0 0, .agg #[.int .i64 0, .int .i64 0], .int .i64 0], []⟩ 8 (by kernel_rfl) (by kernel_rfl) (by kernel_rfl) (by kernel_rfl)) ?_
  intro W base args ds gs before hval hW _ _
  refine law_frame (tb := 4) rfl (by rw [Try.params18]; exact aNear) (fun ds h => ?_) (by kernel_rfl) Try.underlying4 laidOut (by rw [Try.params18]; kernel_rfl) (fun (x : List Pt × Pt × Int) _ => c18 x.1 x.2.1 x.2.2) W base args ds gs before hval hW
  rw [Try.params18] at h
  match ds, h with
  | [d0, d1, d2], _ => rfl

theorem closed18 : joinedFacts Try.prog 18 Try.f18 Go.Proofs.Ytbojgmhpmcnfjaa.Rows.geometryInsideSpec Go.Proofs.Ytbojgmhpmcnfjaa.Rows.geometryInsideRow = true := by
  unfold joinedFacts
  simp only [Bool.and_eq_true]
  repeat' apply And.intro
  all_goals (as_aux_lemma => kernel_rfl)

theorem over18 : Go.Proofs.Ytbojgmhpmcnfjaa.Rows.geometryInsideRow.holds Go.Proofs.Ytbojgmhpmcnfjaa.Try.pinned (OpenSpec.ofChange Go.Proofs.Ytbojgmhpmcnfjaa.Rows.geometryInsideSpec) :=
  OpenClaim.holds_of_wide 18 Try.f18 rfl rfl rfl rfl rfl rfl rfl ⟨rfl, rfl, rfl, rfl, rfl⟩ rfl rfl rfl rfl rfl (by as_aux_lemma => kernel_rfl) Try.func18 closed18
    (of_decide_eq_true (by as_aux_lemma => kernel_rfl)) (by unfold Func.isWrapper; first | (rw [if_pos (by decide +kernel)]; as_aux_lemma => kernel_rfl) | (rw [if_neg (by decide +kernel)]; exact ⟨rfl, rfl⟩))
    (fun os started H enc _ => lifted18 os started H enc)
end Go.Pv.Geo
namespace Go.Proofs.Ytbojgmhpmcnfjaa
theorem geometryInside_holds : Rows.GeometryInsideSaid := Go.Pv.Geo.over18
end Go.Proofs.Ytbojgmhpmcnfjaa

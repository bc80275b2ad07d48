import Derived.Test.YtbojgmhpmcnfjaaWAH
import Derived.Test.YtbojgmhpmcnfjaaRows
import Derived.JoinedOf
import Derived.KernelRfl
/- Part of the proofs over Ytbojgmhpmcnfjaa: L7g. -/
set_option linter.unusedVariables false
set_option linter.unusedSimpArgs false
set_option linter.unnecessarySimpa false
open Go Go.Proofs Go.Pv
/- The law GeometryTriangulates: for every input the call returns true and the arguments read as before. No conditions. -/
set_option maxHeartbeats 1000000
set_option maxRecDepth 100000
set_option linter.unusedVariables false
namespace Go.Pv.Geo

theorem lifted7 (os : Os) (started : os.Started) (H : Type) (enc : TypeId × Value → H) :
    ReturnsInHanded {} Try.checked os 7 .any (Go.Proofs.Ytbojgmhpmcnfjaa.Rows.geometryTriangulatesSpec.pre6 enc Try.prog Try.f7 Go.Proofs.Ytbojgmhpmcnfjaa.Rows.geometryTriangulatesRow.domain false) (Go.Proofs.Ytbojgmhpmcnfjaa.Rows.geometryTriangulatesSpec.post enc Try.prog Try.f7 false true false false) := by
  refine returnsInHanded_of_change (C := Try.checked) own started (by kernel_rfl) Try.func7
    (ChangeSpec.witness6 (enc := enc) (C := Try.checked) false ⟨#[], #[.slice none 0 0], []⟩ 8 (by kernel_rfl) (by kernel_rfl) (by kernel_rfl) (by kernel_rfl)) ?_
  intro W base args ds gs before hval hW _ _
  refine law_frame (tb := 4) rfl (by rw [Try.params7]; exact aPts) (fun ds h => ?_) (by kernel_rfl) Try.underlying4 laidOut (by rw [Try.params7]; kernel_rfl) ((fun (x : List Pt) h => c_law7 x (Nat.le_trans h (by decide)))) W base args ds gs before hval hW
  rw [Try.params7] at h
  match ds, h with
  | [d0], _ => rfl

theorem closed7 : joinedFacts Try.prog 7 Try.f7 Go.Proofs.Ytbojgmhpmcnfjaa.Rows.geometryTriangulatesSpec Go.Proofs.Ytbojgmhpmcnfjaa.Rows.geometryTriangulatesRow = true := by
  unfold joinedFacts
  simp only [Bool.and_eq_true]
  repeat' apply And.intro
  all_goals (as_aux_lemma => kernel_rfl)

theorem over7 : Go.Proofs.Ytbojgmhpmcnfjaa.Rows.geometryTriangulatesRow.holds Go.Proofs.Ytbojgmhpmcnfjaa.Try.pinned (OpenSpec.ofChange Go.Proofs.Ytbojgmhpmcnfjaa.Rows.geometryTriangulatesSpec) :=
  OpenClaim.holds_of_wide 7 Try.f7 rfl rfl rfl rfl rfl rfl rfl ⟨rfl, rfl, rfl, rfl, rfl⟩ rfl rfl rfl rfl rfl (by as_aux_lemma => kernel_rfl) Try.func7 closed7
    (of_decide_eq_true (by as_aux_lemma => kernel_rfl)) (by unfold Func.isWrapper; first | (rw [if_pos (by decide +kernel)]; as_aux_lemma => kernel_rfl) | (rw [if_neg (by decide +kernel)]; exact ⟨rfl, rfl⟩))
    (fun os started H enc _ => lifted7 os started H enc)
end Go.Pv.Geo
namespace Go.Proofs.Ytbojgmhpmcnfjaa
theorem geometryTriangulates_holds : Rows.GeometryTriangulatesSaid := Go.Pv.Geo.over7
end Go.Proofs.Ytbojgmhpmcnfjaa

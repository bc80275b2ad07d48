import Derived.Test.YtbojgmhpmcnfjaaVAG
import Derived.Test.YtbojgmhpmcnfjaaRows
import Derived.JoinedOf
import Derived.KernelRfl
/- Part of the proofs over Ytbojgmhpmcnfjaa: L5g. -/
set_option linter.unusedVariables false
set_option linter.unusedSimpArgs false
set_option linter.unnecessarySimpa false
open Go Go.Proofs Go.Pv
/- The law GeometryCovers: for every input the call returns true and the arguments read as before. No conditions. -/
set_option maxHeartbeats 1000000
set_option maxRecDepth 100000
set_option linter.unusedVariables false
namespace Go.Pv.Geo

theorem lifted5 (os : Os) (started : os.Started) (H : Type) (enc : TypeId × Value → H) :
    ReturnsInHanded {} Try.checked os 5 .any (Go.Proofs.Ytbojgmhpmcnfjaa.Rows.geometryCoversSpec.pre6 enc Try.prog Try.f5 Go.Proofs.Ytbojgmhpmcnfjaa.Rows.geometryCoversRow.domain false) (Go.Proofs.Ytbojgmhpmcnfjaa.Rows.geometryCoversSpec.post enc Try.prog Try.f5 false true false false) := by
  refine returnsInHanded_of_change (C := Try.checked) own started (by kernel_rfl) Try.func5
    (ChangeSpec.witness6 (enc := enc) (C := Try.checked) false ⟨#[], #[.slice none 0 0], []⟩ 8 (by kernel_rfl) (by kernel_rfl) (by kernel_rfl) (by kernel_rfl)) ?_
  intro W base args ds gs before hval hW _ _
  refine law_frame (tb := 4) rfl (by rw [Try.params5]; exact aPts) (fun ds h => ?_) (by kernel_rfl) Try.underlying4 laidOut (by rw [Try.params5]; kernel_rfl) ((fun (x : List Pt) h => c_covers x (Nat.le_trans h (by decide)))) W base args ds gs before hval hW
  rw [Try.params5] at h
  match ds, h with
  | [d0], _ => rfl

theorem closed5 : joinedFacts Try.prog 5 Try.f5 Go.Proofs.Ytbojgmhpmcnfjaa.Rows.geometryCoversSpec Go.Proofs.Ytbojgmhpmcnfjaa.Rows.geometryCoversRow = true := by
  unfold joinedFacts
  simp only [Bool.and_eq_true]
  repeat' apply And.intro
  all_goals (as_aux_lemma => kernel_rfl)

theorem over5 : Go.Proofs.Ytbojgmhpmcnfjaa.Rows.geometryCoversRow.holds Go.Proofs.Ytbojgmhpmcnfjaa.Try.pinned (OpenSpec.ofChange Go.Proofs.Ytbojgmhpmcnfjaa.Rows.geometryCoversSpec) :=
  OpenClaim.holds_of_wide 5 Try.f5 rfl rfl rfl rfl rfl rfl rfl ⟨rfl, rfl, rfl, rfl, rfl⟩ rfl rfl rfl rfl rfl (by as_aux_lemma => kernel_rfl) Try.func5 closed5
    (of_decide_eq_true (by as_aux_lemma => kernel_rfl)) (by unfold Func.isWrapper; first | (rw [if_pos (by decide +kernel)]; as_aux_lemma => kernel_rfl) | (rw [if_neg (by decide +kernel)]; exact ⟨rfl, rfl⟩))
    (fun os started H enc _ => lifted5 os started H enc)
end Go.Pv.Geo
namespace Go.Proofs.Ytbojgmhpmcnfjaa
theorem geometryCovers_holds : Rows.GeometryCoversSaid := Go.Pv.Geo.over5
end Go.Proofs.Ytbojgmhpmcnfjaa

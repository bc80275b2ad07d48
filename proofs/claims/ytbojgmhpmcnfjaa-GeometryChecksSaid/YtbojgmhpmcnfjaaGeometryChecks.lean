import Derived.Test.YtbojgmhpmcnfjaaWAH
import Derived.Test.YtbojgmhpmcnfjaaRows
import Derived.JoinedOf
import Derived.KernelRfl
/- Part of the proofs over Ytbojgmhpmcnfjaa: L8g. -/
set_option linter.unusedVariables false
set_option linter.unusedSimpArgs false
set_option linter.unnecessarySimpa false
open Go Go.Proofs Go.Pv
/- The law GeometryChecks: for every input the call returns true and the arguments read as before. No conditions. -/
set_option maxHeartbeats 1000000
set_option maxRecDepth 100000
set_option linter.unusedVariables false
namespace Go.Pv.Geo

theorem lifted8 (os : Os) (started : os.Started) (H : Type) (enc : TypeId × Value → H) :
    ReturnsInHanded {} Try.checked os 8 .any (Go.Proofs.Ytbojgmhpmcnfjaa.Rows.geometryChecksSpec.pre6 enc Try.prog Try.f8 Go.Proofs.Ytbojgmhpmcnfjaa.Rows.geometryChecksRow.domain false) (Go.Proofs.Ytbojgmhpmcnfjaa.Rows.geometryChecksSpec.post enc Try.prog Try.f8 false true false false) := by
  refine returnsInHanded_of_change (C := Try.checked) own started (by kernel_rfl) Try.func8
    (ChangeSpec.witness6 (enc := enc) (C := Try.checked) false ⟨#[], #[.slice none 0 0, .slice none 0 0], []⟩ 8 (by kernel_rfl) (by kernel_rfl) (by kernel_rfl) (by kernel_rfl)) ?_
  intro W base args ds gs before hval hW _ _
  refine law_frame (tb := 4) rfl (by rw [Try.params8]; exact aPtsTris) (fun ds h => ?_) (by kernel_rfl) Try.underlying4 laidOut (by rw [Try.params8]; kernel_rfl) ((fun (x : List Pt × List Tri) (h : x.1.length ≤ maxLen ∧ x.2.length ≤ maxLen) => c_law8 x.1 x.2 (Nat.le_trans h.1 (by decide)) (Nat.le_trans h.2 (by decide)))) W base args ds gs before hval hW
  rw [Try.params8] at h
  match ds, h with
  | [d0, d1], _ => rfl

theorem closed8 : joinedFacts Try.prog 8 Try.f8 Go.Proofs.Ytbojgmhpmcnfjaa.Rows.geometryChecksSpec Go.Proofs.Ytbojgmhpmcnfjaa.Rows.geometryChecksRow = true := by
  unfold joinedFacts
  simp only [Bool.and_eq_true]
  repeat' apply And.intro
  all_goals (as_aux_lemma => kernel_rfl)

theorem over8 : Go.Proofs.Ytbojgmhpmcnfjaa.Rows.geometryChecksRow.holds Go.Proofs.Ytbojgmhpmcnfjaa.Try.pinned (OpenSpec.ofChange Go.Proofs.Ytbojgmhpmcnfjaa.Rows.geometryChecksSpec) :=
  OpenClaim.holds_of_wide 8 Try.f8 rfl rfl rfl rfl rfl rfl rfl ⟨rfl, rfl, rfl, rfl, rfl⟩ rfl rfl rfl rfl rfl (by as_aux_lemma => kernel_rfl) Try.func8 closed8
    (of_decide_eq_true (by as_aux_lemma => kernel_rfl)) (by unfold Func.isWrapper; first | (rw [if_pos (by decide +kernel)]; as_aux_lemma => kernel_rfl) | (rw [if_neg (by decide +kernel)]; exact ⟨rfl, rfl⟩))
    (fun os started H enc _ => lifted8 os started H enc)
end Go.Pv.Geo
namespace Go.Proofs.Ytbojgmhpmcnfjaa
theorem geometryChecks_holds : Rows.GeometryChecksSaid := Go.Pv.Geo.over8
end Go.Proofs.Ytbojgmhpmcnfjaa

import Derived.Test.YtbojgmhpmcnfjaaGF
import Derived.Test.YtbojgmhpmcnfjaaReads
import Derived.Test.YtbojgmhpmcnfjaaRows
import Derived.JoinedOf
import Derived.KernelRfl
/- Part of the proofs over Ytbojgmhpmcnfjaa: L9g. -/
set_option linter.unusedVariables false
set_option linter.unusedSimpArgs false
set_option linter.unnecessarySimpa false
open Go Go.Proofs Go.Pv
/- The law GeometryLocates: for every input the call returns true and the arguments read as before. No conditions. -/
set_option maxHeartbeats 1000000
set_option maxRecDepth 100000
set_option linter.unusedVariables false
namespace Go.Pv.Geo

theorem lifted9 (os : Os) (started : os.Started) (H : Type) (enc : TypeId × Value → H) :
    ReturnsInHanded {} Try.checked os 9 .any (Go.Proofs.Ytbojgmhpmcnfjaa.Rows.geometryLocatesSpec.pre6 enc Try.prog Try.f9 Go.Proofs.Ytbojgmhpmcnfjaa.Rows.geometryLocatesRow.domain false) (Go.Proofs.Ytbojgmhpmcnfjaa.Rows.geometryLocatesSpec.post enc Try.prog Try.f9 false true false false) := by
  refine returnsInHanded_of_change (C := Try.checked) own started (by kernel_rfl) Try.func9
    (ChangeSpec.witness6 (enc := enc) (C := Try.checked) false ⟨#[], #[.slice none 0 0, .slice none 0 0, .agg #[.int .i64 0, .int .i64 0]], []⟩ 8 (by kernel_rfl) (by kernel_rfl) (by kernel_rfl) (by kernel_rfl)) ?_
  intro W base args ds gs before hval hW _ _
  refine law_frame (tb := 4) rfl (by rw [Try.params9]; exact aLocates) (fun ds h => ?_) (by kernel_rfl) Try.underlying4 laidOut (by rw [Try.params9]; kernel_rfl) (fun (x : List Pt × List Tri × Pt) _ => c9 x.1 x.2.1 x.2.2) W base args ds gs before hval hW
  rw [Try.params9] at h
  match ds, h with
  | [d0, d1, d2], _ => rfl

theorem closed9 : joinedFacts Try.prog 9 Try.f9 Go.Proofs.Ytbojgmhpmcnfjaa.Rows.geometryLocatesSpec Go.Proofs.Ytbojgmhpmcnfjaa.Rows.geometryLocatesRow = true := by
  unfold joinedFacts
  simp only [Bool.and_eq_true]
  repeat' apply And.intro
  all_goals (as_aux_lemma => kernel_rfl)

theorem over9 : Go.Proofs.Ytbojgmhpmcnfjaa.Rows.geometryLocatesRow.holds Go.Proofs.Ytbojgmhpmcnfjaa.Try.pinned (OpenSpec.ofChange Go.Proofs.Ytbojgmhpmcnfjaa.Rows.geometryLocatesSpec) :=
  OpenClaim.holds_of_wide 9 Try.f9 rfl rfl rfl rfl rfl rfl rfl ⟨rfl, rfl, rfl, rfl, rfl⟩ rfl rfl rfl rfl rfl (by as_aux_lemma => kernel_rfl) Try.func9 closed9
    (of_decide_eq_true (by as_aux_lemma => kernel_rfl)) (by unfold Func.isWrapper; first | (rw [if_pos (by decide +kernel)]; as_aux_lemma => kernel_rfl) | (rw [if_neg (by decide +kernel)]; exact ⟨rfl, rfl⟩))
    (fun os started H enc _ => lifted9 os started H enc)
end Go.Pv.Geo
namespace Go.Proofs.Ytbojgmhpmcnfjaa
theorem geometryLocates_holds : Rows.GeometryLocatesSaid := Go.Pv.Geo.over9
end Go.Proofs.Ytbojgmhpmcnfjaa

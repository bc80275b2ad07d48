import Derived.Test.YtbojgmhpmcnfjaaGQ
import Derived.Test.YtbojgmhpmcnfjaaReads
import Derived.Test.YtbojgmhpmcnfjaaRows
import Derived.JoinedOf
import Derived.KernelRfl
/- Part of the proofs over Ytbojgmhpmcnfjaa: L15g. -/
set_option linter.unusedVariables false
set_option linter.unusedSimpArgs false
set_option linter.unnecessarySimpa false
open Go Go.Proofs Go.Pv
/- The law GeometryAdds: for every input the call returns true and the arguments read as before. No conditions. -/
set_option maxHeartbeats 1000000
set_option maxRecDepth 100000
set_option linter.unusedVariables false
namespace Go.Pv.Geo

theorem lifted15 (os : Os) (started : os.Started) (H : Type) (enc : TypeId × Value → H) :
    ReturnsInHanded {} Try.checked os 15 .any (Go.Proofs.Ytbojgmhpmcnfjaa.Rows.geometryAddsSpec.pre6 enc Try.prog Try.f15 Go.Proofs.Ytbojgmhpmcnfjaa.Rows.geometryAddsRow.domain false) (Go.Proofs.Ytbojgmhpmcnfjaa.Rows.geometryAddsSpec.post enc Try.prog Try.f15 false true false false) := by
  refine returnsInHanded_of_change (C := Try.checked) own started (by kernel_rfl) Try.func15
    (ChangeSpec.witness6 (enc := enc) (C := Try.checked) false ⟨#[], #[.agg #[.int .i64 0, .int .i64 0, .int .i64 0, .int .i64 0, .int .i64 0, .int .i64 0, .int .i64 0, .int .i64 0]], []⟩ 8 (by kernel_rfl) (by kernel_rfl) (by kernel_rfl) (by kernel_rfl)) ?_
  intro W base args ds gs before hval hW _ _
  refine law_frame (tb := 4) rfl (by rw [Try.params15]; exact aP4) (fun ds h => ?_) (by kernel_rfl) Try.underlying4 laidOut (by rw [Try.params15]; kernel_rfl) (fun (x : Pt × Pt × Pt × Pt) _ => c15 x.1 x.2.1 x.2.2.1 x.2.2.2) W base args ds gs before hval hW
  rw [Try.params15] at h
  match ds, h with
  | [d0], _ => rfl

theorem closed15 : joinedFacts Try.prog 15 Try.f15 Go.Proofs.Ytbojgmhpmcnfjaa.Rows.geometryAddsSpec Go.Proofs.Ytbojgmhpmcnfjaa.Rows.geometryAddsRow = true := by
  unfold joinedFacts
  simp only [Bool.and_eq_true]
  repeat' apply And.intro
  all_goals (as_aux_lemma => kernel_rfl)

theorem over15 : Go.Proofs.Ytbojgmhpmcnfjaa.Rows.geometryAddsRow.holds Go.Proofs.Ytbojgmhpmcnfjaa.Try.pinned (OpenSpec.ofChange Go.Proofs.Ytbojgmhpmcnfjaa.Rows.geometryAddsSpec) :=
  OpenClaim.holds_of_wide 15 Try.f15 rfl rfl rfl rfl rfl rfl rfl ⟨rfl, rfl, rfl, rfl, rfl⟩ rfl rfl rfl rfl rfl (by as_aux_lemma => kernel_rfl) Try.func15 closed15
    (of_decide_eq_true (by as_aux_lemma => kernel_rfl)) (by unfold Func.isWrapper; first | (rw [if_pos (by decide +kernel)]; as_aux_lemma => kernel_rfl) | (rw [if_neg (by decide +kernel)]; exact ⟨rfl, rfl⟩))
    (fun os started H enc _ => lifted15 os started H enc)
end Go.Pv.Geo
namespace Go.Proofs.Ytbojgmhpmcnfjaa
theorem geometryAdds_holds : Rows.GeometryAddsSaid := Go.Pv.Geo.over15
end Go.Proofs.Ytbojgmhpmcnfjaa

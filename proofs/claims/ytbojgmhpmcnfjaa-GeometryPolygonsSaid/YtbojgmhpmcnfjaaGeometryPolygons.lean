import Derived.Test.YtbojgmhpmcnfjaaGJ
import Derived.Test.YtbojgmhpmcnfjaaReads
import Derived.Test.YtbojgmhpmcnfjaaRows
import Derived.JoinedOf
import Derived.KernelRfl
/- Part of the proofs over Ytbojgmhpmcnfjaa: L10g. -/
set_option linter.unusedVariables false
set_option linter.unusedSimpArgs false
set_option linter.unnecessarySimpa false
open Go Go.Proofs Go.Pv
/- The law GeometryPolygons: for every input the call returns true and the arguments read as before. No conditions. -/
set_option maxHeartbeats 1000000
set_option maxRecDepth 100000
set_option linter.unusedVariables false
namespace Go.Pv.Geo

theorem lifted10 (os : Os) (started : os.Started) (H : Type) (enc : TypeId × Value → H) :
    ReturnsInHanded {} Try.checked os 10 .any (Go.Proofs.Ytbojgmhpmcnfjaa.Rows.geometryPolygonsSpec.pre6 enc Try.prog Try.f10 Go.Proofs.Ytbojgmhpmcnfjaa.Rows.geometryPolygonsRow.domain false) (Go.Proofs.Ytbojgmhpmcnfjaa.Rows.geometryPolygonsSpec.post enc Try.prog Try.f10 false true false false) := by
  refine returnsInHanded_of_change (C := Try.checked) own started (by kernel_rfl) Try.func10
    (ChangeSpec.witness6 (enc := enc) (C := Try.checked) false ⟨#[], #[.slice none 0 0, .int .u8 0], []⟩ 8 (by kernel_rfl) (by kernel_rfl) (by kernel_rfl) (by kernel_rfl)) ?_
  intro W base args ds gs before hval hW _ _
  refine law_frame (tb := 4) rfl (by rw [Try.params10]; exact aPoly) (fun ds h => ?_) (by kernel_rfl) Try.underlying4 laidOut (by rw [Try.params10]; kernel_rfl) (fun (x : List Pt × Int) h => c10 x.1 x.2 h) W base args ds gs before hval hW
  rw [Try.params10] at h
  match ds, h with
  | [d0, d1], _ => rfl

theorem closed10 : joinedFacts Try.prog 10 Try.f10 Go.Proofs.Ytbojgmhpmcnfjaa.Rows.geometryPolygonsSpec Go.Proofs.Ytbojgmhpmcnfjaa.Rows.geometryPolygonsRow = true := by
  unfold joinedFacts
  simp only [Bool.and_eq_true]
  repeat' apply And.intro
  all_goals (as_aux_lemma => kernel_rfl)

theorem over10 : Go.Proofs.Ytbojgmhpmcnfjaa.Rows.geometryPolygonsRow.holds Go.Proofs.Ytbojgmhpmcnfjaa.Try.pinned (OpenSpec.ofChange Go.Proofs.Ytbojgmhpmcnfjaa.Rows.geometryPolygonsSpec) :=
  OpenClaim.holds_of_wide 10 Try.f10 rfl rfl rfl rfl rfl rfl rfl ⟨rfl, rfl, rfl, rfl, rfl⟩ rfl rfl rfl rfl rfl (by as_aux_lemma => kernel_rfl) Try.func10 closed10
    (of_decide_eq_true (by as_aux_lemma => kernel_rfl)) (by unfold Func.isWrapper; first | (rw [if_pos (by decide +kernel)]; as_aux_lemma => kernel_rfl) | (rw [if_neg (by decide +kernel)]; exact ⟨rfl, rfl⟩))
    (fun os started H enc _ => lifted10 os started H enc)
end Go.Pv.Geo
namespace Go.Proofs.Ytbojgmhpmcnfjaa
theorem geometryPolygons_holds : Rows.GeometryPolygonsSaid := Go.Pv.Geo.over10
end Go.Proofs.Ytbojgmhpmcnfjaa

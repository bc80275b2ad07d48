import Derived.Test.YtgmlfdjplilpoaaMAG
import Derived.Test.YtgmlfdjplilpoaaRows
import Derived.JoinedOf
import Derived.KernelRfl
/- Part of the proofs over Ytgmlfdjplilpoaa: L20. -/
set_option linter.unusedVariables false
set_option linter.unusedSimpArgs false
set_option linter.unnecessarySimpa false
open Go Go.Proofs Go.Pv
/- The law TopMassKept: for every input the call returns true and the arguments read as before. No conditions. -/
set_option maxHeartbeats 1000000
set_option maxRecDepth 100000
set_option linter.unusedVariables false
namespace Go.Pv.Soil

theorem lifted3 (os : Os) (started : os.Started) (H : Type) (enc : TypeId × Value → H) :
    ReturnsInHanded {} Try.checked os 3 .any (Go.Proofs.Ytgmlfdjplilpoaa.Rows.topMassKeptSpec.pre6 enc Try.prog Try.f3 Go.Proofs.Ytgmlfdjplilpoaa.Rows.topMassKeptRow.domain false) (Go.Proofs.Ytgmlfdjplilpoaa.Rows.topMassKeptSpec.post enc Try.prog Try.f3 false true false false) := by
  refine returnsInHanded_of_change (C := Try.checked) own started (by kernel_rfl) Try.func3
    (ChangeSpec.witness6 (enc := enc) (C := Try.checked) false ⟨#[], #[.agg #[.slice none 0 0, .slice none 0 0, .slice none 0 0, .slice none 0 0], .slice none 0 0], []⟩ 8 (by kernel_rfl) (by kernel_rfl) (by kernel_rfl) (by kernel_rfl)) ?_
  intro W base args ds gs before hval hW _ _
  refine law_frame (tb := 4) rfl (by rw [Try.params3]; exact aYard) (fun ds h => ?_) (by kernel_rfl) Try.underlying4 laidOut (by rw [Try.params3]; kernel_rfl) (lawMass) W base args ds gs before hval hW
  rw [Try.params3] at h
  match ds, h with
  | [d0, d1], _ => rfl

theorem closed3 : joinedFacts Try.prog 3 Try.f3 Go.Proofs.Ytgmlfdjplilpoaa.Rows.topMassKeptSpec Go.Proofs.Ytgmlfdjplilpoaa.Rows.topMassKeptRow = true := by
  unfold joinedFacts
  simp only [Bool.and_eq_true]
  repeat' apply And.intro
  all_goals (as_aux_lemma => kernel_rfl)

theorem over3 : Go.Proofs.Ytgmlfdjplilpoaa.Rows.topMassKeptRow.holds Go.Proofs.Ytgmlfdjplilpoaa.Try.pinned (OpenSpec.ofChange Go.Proofs.Ytgmlfdjplilpoaa.Rows.topMassKeptSpec) :=
  OpenClaim.holds_of_wide 3 Try.f3 rfl rfl rfl rfl rfl rfl rfl ⟨rfl, rfl, rfl, rfl, rfl⟩ rfl rfl rfl rfl rfl (by as_aux_lemma => kernel_rfl) Try.func3 closed3
    (of_decide_eq_true (by as_aux_lemma => kernel_rfl)) (by unfold Func.isWrapper; first | (rw [if_pos (by decide +kernel)]; as_aux_lemma => kernel_rfl) | (rw [if_neg (by decide +kernel)]; exact ⟨rfl, rfl⟩))
    (fun os started H enc _ => lifted3 os started H enc)
end Go.Pv.Soil
namespace Go.Proofs.Ytgmlfdjplilpoaa
theorem topMassKept_holds : Rows.TopMassKeptSaid := Go.Pv.Soil.over3
end Go.Proofs.Ytgmlfdjplilpoaa

import Derived.Test.YtfklpkgdobdbpaaGreatRows
import Derived.JoinedOf
import Derived.Test.YtfklpkgdobdbpaaGreatCBX
/- Part of the proofs over YtfklpkgdobdbpaaGreat: LCCutCells. -/
set_option linter.unusedVariables false
set_option linter.unusedSimpArgs false
set_option linter.unnecessarySimpa false
open Go Go.Proofs Go.Pv
/- The law CutCells: for every input the call returns true and the arguments read as before. No conditions. -/
set_option maxHeartbeats 400000000
set_option maxRecDepth 100000
set_option linter.unusedVariables false
namespace Go.Pv.Soil

theorem frameCutCells (x : Site × ByteArray × Int) (hx : Wide x.1 ∧ True ∧ I64 x.2.2) :
    Contract Tryz.prog 12 [.agg (encSite x.1), .str x.2.1, .int .i64 x.2.2] (.ret (.bool true)) := law_cells x.1 hx.1 x.2.1 x.2.2 hx.2.2
theorem lifted12 (os : Os) (started : os.Started) (H : Type) (enc : TypeId × Value → H) :
    ReturnsInHanded {} Tryz.checked os 12 .any (Go.Proofs.YtfklpkgdobdbpaaGreat.Rows.cutCellsSpec.pre6 enc Tryz.prog Tryz.f12 Go.Proofs.YtfklpkgdobdbpaaGreat.Rows.cutCellsRow.domain false) (Go.Proofs.YtfklpkgdobdbpaaGreat.Rows.cutCellsSpec.post enc Tryz.prog Tryz.f12 false true false false) := by
  refine returnsInHanded_of_change (C := Tryz.checked) own started (by kernel_rfl) Tryz.func12
    (ChangeSpec.witness6 (enc := enc) (C := Tryz.checked) false ⟨#[], #[.agg #[.int .i64 0, .int .i64 0, .int .i64 0, .int .i64 0, .int .i64 0, .slice none 0 0, .slice none 0 0, .slice none 0 0, .slice none 0 0, .slice none 0 0, .slice none 0 0, .slice none 0 0], .string ⟨#[]⟩, .int .i64 0], []⟩ 8 (by kernel_rfl) (by kernel_rfl) (by kernel_rfl) (by kernel_rfl)) ?_
  intro W base args ds gs before hval hW _ _
  refine law_frame (tb := 4) rfl (by rw [Tryz.params12]; exact aCells) (fun ds h => ?_) (by kernel_rfl) Tryz.underlying4 laidOut (by rw [Tryz.params12]; kernel_rfl) (frameCutCells) W base args ds gs before hval hW
  rw [Tryz.params12] at h
  match ds, h with
  | [d0, d1, d2], _ => rfl

theorem closed12 : joinedFacts Tryz.prog 12 Tryz.f12 Go.Proofs.YtfklpkgdobdbpaaGreat.Rows.cutCellsSpec Go.Proofs.YtfklpkgdobdbpaaGreat.Rows.cutCellsRow = true := by
  unfold joinedFacts
  simp only [Bool.and_eq_true]
  repeat' apply And.intro
  all_goals (as_aux_lemma => kernel_rfl)

theorem over12 : Go.Proofs.YtfklpkgdobdbpaaGreat.Rows.cutCellsRow.holds Go.Proofs.YtfklpkgdobdbpaaGreat.Tryz.pinned (OpenSpec.ofChange Go.Proofs.YtfklpkgdobdbpaaGreat.Rows.cutCellsSpec) :=
  OpenClaim.holds_of_wide 12 Tryz.f12 rfl rfl rfl rfl rfl rfl rfl ⟨rfl, rfl, rfl, rfl, rfl⟩ rfl rfl rfl rfl rfl (by as_aux_lemma => kernel_rfl) Tryz.func12 closed12
    (of_decide_eq_true (by as_aux_lemma => kernel_rfl)) (by unfold Func.isWrapper; first | (rw [if_pos (by decide +kernel)]; as_aux_lemma => kernel_rfl) | (rw [if_neg (by decide +kernel)]; exact ⟨rfl, rfl⟩))
    (fun os started H enc _ => lifted12 os started H enc)
end Go.Pv.Soil
namespace Go.Proofs.YtfklpkgdobdbpaaGreat
theorem cutCells_holds : Rows.CutCellsSaid := Go.Pv.Soil.over12
end Go.Proofs.YtfklpkgdobdbpaaGreat

import Derived.Test.YtdedpndkohfgbaaGreatNAH
import Derived.Test.YtdedpndkohfgbaaGreatRows
import Derived.JoinedOf
import Derived.KernelRfl
/- Part of the proofs over YtdedpndkohfgbaaGreat: LZ5. -/
set_option linter.unusedVariables false
set_option linter.unusedSimpArgs false
set_option linter.unnecessarySimpa false
open Go Go.Proofs Go.Pv
/- The law TopRanksTwoWays: for every input the call returns true and the arguments read as before. No conditions. -/
set_option maxHeartbeats 1000000
set_option maxRecDepth 100000
set_option linter.unusedVariables false
namespace Go.Pv.Soil

theorem lifted5 (os : Os) (started : os.Started) (H : Type) (enc : TypeId × Value → H) :
    ReturnsInHanded {} Tryz.checked os 5 .any (Go.Proofs.YtdedpndkohfgbaaGreat.Rows.topRanksTwoWaysSpec.pre6 enc Tryz.prog Tryz.f5 Go.Proofs.YtdedpndkohfgbaaGreat.Rows.topRanksTwoWaysRow.domain false) (Go.Proofs.YtdedpndkohfgbaaGreat.Rows.topRanksTwoWaysSpec.post enc Tryz.prog Tryz.f5 false true false false) := by
  refine returnsInHanded_of_change (C := Tryz.checked) own started (by kernel_rfl) Tryz.func5
    (ChangeSpec.witness6 (enc := enc) (C := Tryz.checked) false ⟨#[], #[.agg #[.slice none 0 0, .slice none 0 0, .int .i64 0, .int .i64 0, .string ByteArray.empty, .slice none 0 0, .int .i64 0, .int .i64 0, .int .i64 0]], []⟩ 8 (by kernel_rfl) (by kernel_rfl) (by kernel_rfl) (by kernel_rfl)) ?_
  intro W base args ds gs before hval hW _ _
  refine law_frame (tb := 4) rfl (by rw [Tryz.params5]; exact aLot) (fun ds h => ?_) (by kernel_rfl) Tryz.underlying4 laidOut (by rw [Tryz.params5]; kernel_rfl) (fun (x : List Sample × (List Geo.Pt × Int × Int) × Standard × (Int × Int × Int)) (h : x.1.length ≤ 9223372036854775807 ∧ x.2.1.1.length ≤ 9223372036854775807 ∧ x.2.2.1.limits.length ≤ 9223372036854775807 ∧ x.2.2.1.sub.size ≤ 9223372036854775807) => c_lot x.1 x.2.1.1 x.2.1.2.1 x.2.1.2.2 x.2.2.1.sub x.2.2.1.limits x.2.2.2.1 x.2.2.2.2.1 x.2.2.2.2.2 h.1 h.2.1 h.2.2.1 h.2.2.2) W base args ds gs before hval hW
  rw [Tryz.params5] at h
  match ds, h with
  | [d0], _ => rfl

theorem closed5 : joinedFacts Tryz.prog 5 Tryz.f5 Go.Proofs.YtdedpndkohfgbaaGreat.Rows.topRanksTwoWaysSpec Go.Proofs.YtdedpndkohfgbaaGreat.Rows.topRanksTwoWaysRow = true := by
  unfold joinedFacts
  simp only [Bool.and_eq_true]
  repeat' apply And.intro
  all_goals (as_aux_lemma => kernel_rfl)

theorem over5 : Go.Proofs.YtdedpndkohfgbaaGreat.Rows.topRanksTwoWaysRow.holds Go.Proofs.YtdedpndkohfgbaaGreat.Tryz.pinned (OpenSpec.ofChange Go.Proofs.YtdedpndkohfgbaaGreat.Rows.topRanksTwoWaysSpec) :=
  OpenClaim.holds_of_wide 5 Tryz.f5 rfl rfl rfl rfl rfl rfl rfl ⟨rfl, rfl, rfl, rfl, rfl⟩ rfl rfl rfl rfl rfl (by as_aux_lemma => kernel_rfl) Tryz.func5 closed5
    (of_decide_eq_true (by as_aux_lemma => kernel_rfl)) (by unfold Func.isWrapper; first | (rw [if_pos (by decide +kernel)]; as_aux_lemma => kernel_rfl) | (rw [if_neg (by decide +kernel)]; exact ⟨rfl, rfl⟩))
    (fun os started H enc _ => lifted5 os started H enc)
end Go.Pv.Soil
namespace Go.Proofs.YtdedpndkohfgbaaGreat
theorem topRanksTwoWays_holds : Rows.TopRanksTwoWaysSaid := Go.Pv.Soil.over5
end Go.Proofs.YtdedpndkohfgbaaGreat

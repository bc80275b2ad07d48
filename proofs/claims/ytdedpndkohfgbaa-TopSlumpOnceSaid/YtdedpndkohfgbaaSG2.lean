import Derived.Test.YtdedpndkohfgbaaSM
/- Part of the proofs over Ytdedpndkohfgbaa: G2. -/
set_option linter.unusedVariables false
set_option linter.unusedSimpArgs false
set_option linter.unnecessarySimpa false
open Go Go.Proofs Go.Pv
set_option maxHeartbeats 2000000
set_option linter.unusedSimpArgs false
set_option linter.unusedVariables false
namespace Go.Pv.Soil

theorem gridded2 {g : Ground} {m a : Grid} (h : griddedE g [m, a] = 0) : groundE g = 0 ∧ gridE m = 0 ∧ gridE a = 0 ∧ alikeE m a = true := by
  unfold griddedE at h
  split at h
  · omega
  · rename_i h1
    split at h
    · omega
    · rename_i h2
      simp only [List.map_cons, List.map_nil, firstOf] at h2
      have h : (if alikeE m a = true then (0 : Int) else 10) = 0 := h
      split at h
      · rename_i h4
        refine ⟨by omega, ?_, ?_, h4⟩
        · split at h2 <;> omega
        · split at h2
          · omega
          · split at h2 <;> omega
      · omega
theorem alike_gridL {m o : Grid} (h : alikeE m o = true) : o = gridL m o.levels := by
  have p3 : decide (m.x = o.x ∧ m.y = o.y ∧ m.side = o.side ∧ m.cols = o.cols ∧ m.rows = o.rows) = true := h
  have p3 := of_decide_eq_true p3
  obtain ⟨x, y, sd, c, r, l⟩ := o
  simp only at p3
  obtain ⟨q1, q2, q3, q4, q5⟩ := p3
  simp only [gridL, q1, q2, q3, q4, q5]
theorem alike_len {m o : Grid} (hm : OkGrid m) (ho : OkGrid o) (h : alikeE m o = true) : o.levels.length = m.levels.length := by
  have a := ho.len
  have b := hm.len
  have c : o.cols * o.rows = m.cols * m.rows := by rw [alike_gridL h]; rfl
  omega
end Go.Pv.Soil

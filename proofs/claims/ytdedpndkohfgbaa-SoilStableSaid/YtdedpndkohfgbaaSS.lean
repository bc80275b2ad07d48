import Derived.Test.YtdedpndkohfgbaaProg
import Derived.Test.YtdedpndkohfgbaaSR
import Derived.KernelRfl
/- Part of the proofs over Ytdedpndkohfgbaa: S46. -/
set_option linter.unusedVariables false
set_option linter.unusedSimpArgs false
set_option linter.unnecessarySimpa false
open Go Go.Proofs Go.Pv
set_option maxHeartbeats 4000000
set_option maxRecDepth 100000
set_option linter.unusedSimpArgs false
set_option linter.unusedVariables false
namespace Go.Pv.Soil

theorem gridE_withL {m : Grid} (h : gridE m = 0) {l : List Int} (hl : l.length = m.levels.length) (hr : ∀ i, i < l.length → lv l i ≠ 30000 → -20000 ≤ lv l i ∧ lv l i ≤ 20000) : gridE (gridL m l) = 0 := by
  have hm := okGrid h
  have e : (gridL m l).levels.any badLv = false := by
    refine Bool.eq_false_iff.2 fun hc => ?_
    obtain ⟨x, hx, hb⟩ := List.any_eq_true.1 hc
    obtain ⟨i, hi, rfl⟩ := List.mem_iff_getElem.1 hx
    have hi : i < l.length := hi
    have := hr i hi
    rw [lv_get hi] at this
    have hb : badLv l[i] = true := hb
    simp only [badLv, Bool.and_eq_true, decide_eq_true_eq, Bool.not_eq_true', lvOK, decide_eq_false_iff_not] at hb
    exact hb.2 (this hb.1)
  unfold gridE
  rw [if_neg (fun h => h hm.bds), if_neg (by have := hm.cells; show ¬ 1024 < m.cols * m.rows; omega), if_neg (by have := hm.ends; show ¬ (1000000 < m.x + m.cols * m.side ∨ 1000000 < m.y + m.rows * m.side); omega), if_neg (by show ¬ (l.length : Int) ≠ m.cols * m.rows; have := hm.len; omega), e]
  rfl
theorem gridded_withL {g : Ground} {m : Grid} (h : griddedE g [m] = 0) {l : List Int} (hl : l.length = m.levels.length) (hr : ∀ i, i < l.length → lv l i ≠ 30000 → -20000 ≤ lv l i ∧ lv l i ≤ 20000) : griddedE g [gridL m l] = 0 := by
  obtain ⟨h1, h2⟩ := gridded1 h
  have h3 := gridE_withL h2 hl hr
  unfold griddedE
  rw [if_neg (fun h => h h1)]
  simp [firstOf, h3]
theorem turn_rng {l : List Int} (hr : ∀ i, i < l.length → lv l i ≠ 30000 → -20000 ≤ lv l i ∧ lv l i ≤ 20000) : Far l ∧ ∀ i, i < (turn l).length → lv (turn l) i ≠ 30000 → -20000 ≤ lv (turn l) i ∧ lv (turn l) i ≤ 20000 := by
  have hf : Far l := fun i hi e => by have := hr i hi (by omega); omega
  refine ⟨hf, fun i hi hk => ?_⟩
  have hi : i < l.length := by simpa [turn] using hi
  have h1 : lv l i ≠ 30000 := fun e => hk ((turn_known hf hi).2 e)
  rw [lv_turn hi, if_neg h1]
  have := hr i hi h1
  omega

theorem known_of' {w : Int} {m s : List Int} (h : Beyond w m s) : ∀ i, i < m.length → (lv s i = 30000 ↔ lv m i = 30000) := fun i hi => (h.2 i hi).1
theorem same_refl' (a : Grid) : sameE a a = true := by simp [sameE, alikeE]

theorem slight5 (g : Ground) (m : Grid) (hs : slightE g = false) : Contract Try.prog 5 [.agg (encGround g), .agg (encGrid m)] (.ret (.bool true)) := by
  have h19 := c19 g
  rw [hs] at h19
  refine contract_of mix Try.func5 rfl rfl (by rw [Try.ntmps5]; exact Nat.le_of_ble_eq_true rfl) ?_; rw [Try.results5, Try.ntmps5]; simp only [argsE, Nat.reduceAdd]
  repeat' first
           | (with_reducible apply go_op)
           | (with_reducible apply go_next)
           | ((with_reducible (show evOp _ _ _ _ _ _)); first
             | (((with_reducible apply go_mv_bool); rfl; rfl))
             | ((with_reducible apply go_as))
             | (((with_reducible apply go_ld_agg); rfl; rfl; rfl; rfl))
             | ((with_reducible (show evOp _ (.call _) _ _ _ _)) ; first | ((with_reducible apply go_fn_bool); rfl; (exact c18); rfl) | ((with_reducible apply go_fn_bool); rfl; (exact h19); rfl))
             | (((with_reducible apply go_not); rfl; rfl))
             | (((with_reducible apply go_pick); rfl; rfl; rfl))
             | (((with_reducible apply go_bx_agg); rfl; rfl; (exact Nat.le_of_ble_eq_true rfl); rfl; rfl)))
           | ((with_reducible (show evOps _ _ _ _ _ _)); first
             | (with_reducible apply go_nil)
             | ((with_reducible apply go_pass); rfl; rfl; rfl))
           | ((with_reducible (show ev _ _ _ _)); first
             | (with_reducible apply go_seq)
             | (with_reducible apply go_region)
             | ((with_reducible apply go_cond_t); rfl; rfl)
             | ((with_reducible apply go_cond_f); rfl; rfl)
             | (with_reducible apply go_ret)
             | (with_reducible apply go_skipc))
           | (with_reducible apply go_kseq)
           | (with_reducible apply go_kseq_ret)
           | ((with_reducible apply end_bool); rfl)
           | (with_reducible rfl)
theorem much5 (g : Ground) (m : Grid) (hl : m.levels.length ≤ 9223372036854775807) (hs : slightE g = true) (hm : 200 < m.levels.length) : Contract Try.prog 5 [.agg (encGround g), .agg (encGrid m)] (.ret (.bool true)) := by
  have h19 := c19 g
  rw [hs] at h19
  refine contract_of mix Try.func5 rfl rfl (by rw [Try.ntmps5]; exact Nat.le_of_ble_eq_true rfl) ?_; rw [Try.results5, Try.ntmps5]; simp only [argsE, Nat.reduceAdd]
  repeat' first
           | (with_reducible apply go_op)
           | (with_reducible apply go_next)
           | ((with_reducible (show evOp _ _ _ _ _ _)); first
             | (((with_reducible apply go_mv_bool); rfl; rfl))
             | ((with_reducible apply go_as))
             | ((with_reducible (show evOp _ (.load _ _) _ _ _ _)) ; first | ((with_reducible apply go_ld_agg); rfl; rfl; rfl; rfl) | ((with_reducible apply go_load_own); rfl; rfl; rfl; rfl))
             | (((with_reducible apply go_fieldAddr_own); rfl; rfl; rfl))
             | (((with_reducible apply go_cmp); rfl; rfl; rfl; rfl))
             | ((with_reducible (show evOp _ (.call _) _ _ _ _)) ; first | ((with_reducible apply go_len); rfl; rfl) | ((with_reducible apply go_fn_bool); rfl; (exact c18); rfl) | ((with_reducible apply go_fn_bool); rfl; (exact h19); rfl))
             | (((with_reducible apply go_not); rfl; rfl))
             | (((with_reducible apply go_pick); rfl; rfl; rfl))
             | (((with_reducible apply go_bx_agg); rfl; rfl; (exact Nat.le_of_ble_eq_true rfl); rfl; rfl)))
           | ((with_reducible (show evOps _ _ _ _ _ _)); first
             | (with_reducible apply go_nil)
             | ((with_reducible apply go_run); rfl; rfl))
           | ((with_reducible (show ev _ _ _ _)); first
             | (with_reducible apply go_seq)
             | (with_reducible apply go_region)
             | ((with_reducible apply go_cond_f); rfl; rfl)
             | (((with_reducible apply go_cond); rfl) <;> (intro h; simp only [h]; try simp only [decide_eq_true_eq, decide_eq_false_iff_not, Bool.not_eq_true', Bool.not_eq_false', Bool.not_true, Bool.not_false] at h; try exact absurd trivial h))
             | (with_reducible apply go_ret)
             | (with_reducible apply go_skipc))
           | (with_reducible apply go_kseq)
           | (with_reducible apply go_kseq_ret)
           | ((with_reducible apply end_bool); rfl)
           | (with_reducible rfl)
  all_goals (exfalso; omega)
theorem bad5 (g : Ground) (m : Grid) (hl : m.levels.length ≤ 200) (hs : slightE g = true) (hge : griddedE g [m] ≠ 0) : Contract Try.prog 5 [.agg (encGround g), .agg (encGrid m)] (.ret (.bool true)) := by
  have h19 := c19 g
  rw [hs] at h19
  have hl2 := slight_len hs
  have hsl : g.soils.length < 1000000000000 := by omega
  have hbl : g.borings.length < 1000000000000 := by omega
  have h25 := c25 g hsl hbl m (by omega)
  have h26 := c26 g hsl hbl m (by omega)
  rw [slumpR_bad hge] at h25 h26
  generalize griddedE g [m] = ge at *
  refine contract_of mix Try.func5 rfl rfl (by rw [Try.ntmps5]; exact Nat.le_of_ble_eq_true rfl) ?_; rw [Try.results5, Try.ntmps5]; simp only [argsE, Nat.reduceAdd]
  repeat' first
           | (with_reducible apply go_op)
           | (with_reducible apply go_next)
           | ((with_reducible (show evOp _ _ _ _ _ _)); first
             | ((with_reducible (show evOp _ (.move _) _ _ _ _)) ; first | ((with_reducible apply go_mv_int); rfl; rfl) | ((with_reducible apply go_mv_bool); rfl; rfl) | ((with_reducible apply go_mv_tup); rfl; rfl))
             | ((with_reducible apply go_as))
             | ((with_reducible (show evOp _ (.load _ _) _ _ _ _)) ; first | ((with_reducible apply go_ld_agg); rfl; rfl; rfl; rfl) | ((with_reducible apply go_load_own); rfl; rfl; rfl; rfl))
             | (((with_reducible apply go_fieldAddr_own); rfl; rfl; rfl))
             | (((with_reducible apply go_cmp); rfl; rfl; rfl; rfl))
             | ((with_reducible (show evOp _ (.call _) _ _ _ _)) ; first | ((with_reducible apply go_len); rfl; rfl) | ((with_reducible apply go_fn_bool); rfl; (exact c18); rfl) | ((with_reducible apply go_fn_bool); rfl; (exact h19); rfl) | ((with_reducible apply (go_fn_agf3 (cs := encG5 zeroG))); rfl; (exact h25); (exact scalInt); rfl; rfl; rfl; rfl; rfl; rfl; rfl) | ((with_reducible apply (go_fn_agf3 (cs := encG5 zeroG))); rfl; (exact h26); (exact scalInt); rfl; rfl; rfl; rfl; rfl; rfl; rfl))
             | (((with_reducible apply go_st_agg); rfl; rfl; rfl; rfl; rfl; rfl; rfl))
             | (((with_reducible apply go_not); rfl; rfl))
             | (((with_reducible apply go_extract); rfl; rfl))
             | (((with_reducible apply go_pick); rfl; rfl; rfl))
             | (((with_reducible apply go_bx_agg); rfl; rfl; (exact Nat.le_of_ble_eq_true rfl); rfl; rfl))
             | (((with_reducible apply go_alloc); rfl; rfl; rfl)))
           | ((with_reducible (show evOps _ _ _ _ _ _)); first
             | (with_reducible apply go_nil)
             | ((with_reducible apply go_run); rfl; rfl)
             | ((with_reducible apply go_pass); rfl; rfl; rfl)
             | (((with_reducible apply go_guard); rfl) <;> (intro h; simp only [h, Bool.not_true, Bool.not_false]; (try with_reducible (refine ⟨rfl, ?_⟩)); try simp only [decide_eq_true_eq, decide_eq_false_iff_not, Bool.not_eq_true', Bool.not_eq_false', Bool.not_true, Bool.not_false] at h; try exact absurd trivial h))
             | (with_reducible apply go_take))
           | ((with_reducible (show ev _ _ _ _)); first
             | (with_reducible apply go_seq)
             | (with_reducible apply go_region)
             | ((with_reducible apply go_cond_t); rfl; rfl)
             | ((with_reducible apply go_cond_f); rfl; rfl)
             | (((with_reducible apply go_cond); rfl) <;> (intro h; simp only [h]; try simp only [decide_eq_true_eq, decide_eq_false_iff_not, Bool.not_eq_true', Bool.not_eq_false', Bool.not_true, Bool.not_false] at h; try exact absurd trivial h))
             | ((with_reducible apply (go_drawL 9 [[6, 7], [7], []])); decide +kernel; rfl)
             | (with_reducible apply go_ret)
             | (with_reducible apply go_skipc))
           | (with_reducible apply go_kseq)
           | (with_reducible apply go_kseq_ret)
           | ((with_reducible apply end_bool); rfl)
           | (with_reducible rfl)
  all_goals first | exact absurd ‹ge = 0› hge | (exfalso; omega) | simp

theorem good5 (g : Ground) (m : Grid) (hl : m.levels.length ≤ 200) (hs : slightE g = true) (hge : griddedE g [m] = 0) : Contract Try.prog 5 [.agg (encGround g), .agg (encGrid m)] (.ret (.bool true)) := by
  have h19 := c19 g
  rw [hs] at h19
  have hl2 := slight_len hs
  have hsl : g.soils.length < 1000000000000 := by omega
  have hbl : g.borings.length < 1000000000000 := by omega
  have h25 := c25 g hsl hbl m (by omega)
  have h26 := c26 g hsl hbl m (by omega)
  obtain ⟨h1, h2⟩ := gridded1 hge
  have hm := okGrid h2
  have hg := okG h1
  rw [slumpR_ok hge] at h25 h26
  have hgS := slumpE_gs hg hm (.inl rfl)
  have hgH := slumpE_gs hg hm (.inr rfl)
  have hN := netE_ok hg hm m.levels.length
  have hS := hgS.below.1
  have hH := hgH.below.1
  obtain ⟨fm, tm⟩ := turn_rng hm.rng
  have rH := (slumpE_mid hg hm (.inr rfl)).rng
  obtain ⟨fH, tH⟩ := turn_rng rH
  have hltm : (turn m.levels).length = m.levels.length := by simp [turn]
  have hltH : (turn (slumpE g m 1)).length = m.levels.length := by simp [turn, hH]
  have hmt : OkGrid (gridL m (turn m.levels)) := hm.withL hltm tm
  have hgt := gridded_withL hge hltm tm
  have het : turn (slumpE g m 1) = slumpE g (gridL m (turn m.levels)) (-1) := slumpE_eq hg hmt (.inl rfl) (gs_turn hN hm.rng hgH)
  have hft : fallE g (gridL m (turn m.levels)) (-1) = fallE g m 1 := by
    unfold fallE
    rw [← het]
    have := total_turn (w := 1) hH (known_of' hgH.below)
    show (total (-1) (turn (slumpE g m 1)) - total (-1) (turn m.levels)) * m.side * m.side = _
    rw [this]
  have h25t : Contract Try.prog 25 [.agg (encGround g), .agg (encG5 m ++ [.sl ((turn m.levels).map encInt)])] (.ret (.tup [.agg (encG5 m ++ [.fr 1 ((turn (slumpE g m 1)).map encInt)]), .int .i64 (fallE g m 1), .int .i64 0])) := by
    have := c25 g hsl hbl (gridL m (turn m.levels)) (by show (turn m.levels).length < 1000000000000; omega)
    rw [slumpR_ok hgt, ← het, hft] at this
    exact this
  have h34 : Contract Try.prog 34 [.agg (encGrid m)] (.ret (.agg (encG5 m ++ [.fr 1 ((turn m.levels).map encInt)]))) := c34 m hm
  have h34t : Contract Try.prog 34 [.agg (encG5 m ++ [.sl ((turn (slumpE g m 1)).map encInt)])] (.ret (.agg (encG5 m ++ [.fr 1 ((slumpE g m 1).map encInt)]))) := by
    have := c34 (gridL m (turn (slumpE g m 1))) (hm.withL hltH tH)
    have e : turn (gridL m (turn (slumpE g m 1))).levels = slumpE g m 1 := turn_turn fH
    rw [e] at this
    exact this
  have h32b : Contract Try.prog 32 [.agg (encG5 m ++ [.sl ((slumpE g m 1).map encInt)]), .agg (encG5 m ++ [.sl ((slumpE g m 1).map encInt)])] (.ret (.bool true)) := by
    have := c32 (gridL m (slumpE g m 1)) (gridL m (slumpE g m 1)) (by show (slumpE g m 1).length < 1000000000000; omega)
    rwa [same_refl'] at this
  have h25 : Contract Try.prog 25 [.agg (encGround g), .agg (encGrid m)] (.ret (.tup [.agg (encG5 m ++ [.fr 1 ((slumpE g m (-1)).map encInt)]), .int .i64 (fallE g m (-1)), .int .i64 0])) := h25
  have h26 : Contract Try.prog 26 [.agg (encGround g), .agg (encGrid m)] (.ret (.tup [.agg (encG5 m ++ [.fr 1 ((slumpE g m 1).map encInt)]), .int .i64 (fallE g m 1), .int .i64 0])) := h26
  have hle : ∀ i, i < m.levels.length → lv (slumpE g m (-1)) i ≤ lv (slumpE g m 1) i := fun i hi => by
    have a := hgS.below.2 i hi
    have b := hgH.below.2 i hi
    by_cases hk : lv m.levels i = 30000
    · rw [a.1.2 hk, b.1.2 hk]; exact Int.le_refl _
    · have := a.2 hk
      have := b.2 hk
      omega
  clear het hft hgt hmt hN hgS hgH fm tm rH fH tH
  generalize slumpE g m (-1) = S at *
  generalize slumpE g m 1 = H at *
  generalize fallE g m (-1) = v at *
  generalize fallE g m 1 = w at *
  refine contract_of mix Try.func5 rfl rfl (by rw [Try.ntmps5]; exact Nat.le_of_ble_eq_true rfl) ?_; rw [Try.results5, Try.ntmps5]; simp only [argsE, Nat.reduceAdd]
  repeat' first
           | (with_reducible apply go_op)
           | (with_reducible apply go_next)
           | ((with_reducible (show evOp _ _ _ _ _ _)); first
             | ((with_reducible (show evOp _ (.move _) _ _ _ _)) ; first | ((with_reducible apply go_mv_int); rfl; rfl) | ((with_reducible apply go_mv_bool); rfl; rfl) | ((with_reducible apply go_mv_tup); rfl; rfl))
             | ((with_reducible apply go_as))
             | ((with_reducible (show evOp _ (.load _ _) _ _ _ _)) ; first | ((with_reducible apply go_ld_agg); rfl; rfl; rfl; rfl) | ((with_reducible apply go_load_own); rfl; rfl; rfl; rfl))
             | (((with_reducible apply go_fieldAddr_own); rfl; rfl; rfl))
             | (((with_reducible apply go_cmp); rfl; rfl; rfl; rfl))
             | ((with_reducible (show evOp _ (.call _) _ _ _ _)) ; first | ((with_reducible apply go_len); rfl; rfl) | ((with_reducible apply go_len_own); rfl; rfl; rfl) | ((with_reducible apply go_fn_bool); rfl; (exact c18); rfl) | ((with_reducible apply go_fn_bool); rfl; (exact h19); rfl) | ((with_reducible apply (go_fn_agf3 (cs := encG5 m))); rfl; (exact h25); (exact scalInt); rfl; rfl; rfl; rfl; rfl; rfl; rfl) | ((with_reducible apply (go_fn_agf3 (cs := encG5 m))); rfl; (exact h26); (exact scalInt); rfl; rfl; rfl; rfl; rfl; rfl; rfl) | ((with_reducible apply (go_fn_agf (cs := encG5 m))); rfl; (exact h34); (exact scalInt); rfl; rfl; rfl; rfl; rfl) | ((with_reducible apply (go_fn_agf3 (cs := encG5 m))); (exact purL_agf2 (cs := encG5 m) rfl rfl (by simp; try assumption) rfl rfl rfl); (exact h25t); (exact scalInt); rfl; rfl; rfl; rfl; rfl; rfl; rfl) | ((with_reducible apply (go_fn_agfr (cs := encG5 m))); (exact purL_agf (cs := encG5 m) rfl (by simp; try assumption) rfl rfl rfl); (exact h34t); (exact scalInt); rfl; rfl; rfl; rfl; rfl) | ((with_reducible apply go_fn_bool); (exact purL_agf_agf (cs := encG5 m) (cs2 := encG5 m) rfl (by simp; try assumption) rfl rfl rfl (by simp; try assumption) rfl rfl); (exact h32b); rfl))
             | (((with_reducible apply go_st_agg); rfl; rfl; rfl; rfl; rfl; rfl; rfl))
             | (((with_reducible apply go_not); rfl; rfl))
             | (((with_reducible apply go_extract); rfl; rfl))
             | (((with_reducible apply go_pick); rfl; rfl; rfl))
             | (((with_reducible apply go_bx_agg); rfl; rfl; (exact Nat.le_of_ble_eq_true rfl); rfl; rfl))
             | (((with_reducible apply go_alloc); rfl; rfl; rfl)))
           | ((with_reducible (show evOps _ _ _ _ _ _)); first
             | (with_reducible apply go_nil)
             | ((with_reducible apply go_run); rfl; rfl)
             | ((with_reducible apply go_pass); rfl; rfl; rfl)
             | (((with_reducible apply go_guard); rfl) <;> (intro h; simp only [h, Bool.not_true, Bool.not_false]; (try with_reducible (refine ⟨rfl, ?_⟩)); try simp only [decide_eq_true_eq, decide_eq_false_iff_not, Bool.not_eq_true', Bool.not_eq_false', Bool.not_true, Bool.not_false] at h; try exact absurd trivial h))
             | ((with_reducible apply go_pre); rfl)
             | (with_reducible apply go_pre_nil)
             | ((with_reducible apply go_suf); rfl)
             | (with_reducible apply go_suf_nil)
             | (with_reducible apply go_take)
             | (with_reducible apply go_take0))
           | ((with_reducible (show ev _ _ _ _)); first
             | (with_reducible apply go_seq)
             | (with_reducible apply go_region)
             | ((with_reducible apply go_cond_t); rfl; rfl)
             | ((with_reducible apply go_cond_f); rfl; rfl)
             | (((with_reducible apply go_cond); rfl) <;> (intro h; simp only [h]; try simp only [decide_eq_true_eq, decide_eq_false_iff_not, Bool.not_eq_true', Bool.not_eq_false', Bool.not_true, Bool.not_false] at h; try exact absurd trivial h))
             | ((with_reducible apply (go_drawL 9 [[6, 7], [7], []])); decide +kernel; rfl)
             | ((with_reducible apply go_order); kernel_rfl; rfl)
             | (with_reducible apply go_ret)
             | (with_reducible apply go_skipc)
             | (with_reducible apply go_block))
           | (with_reducible apply go_klined)
           | (with_reducible apply go_line_drop)
           | (with_reducible apply go_line_drop0)
           | (with_reducible apply go_line)
           | (with_reducible apply go_line_nil)
           | (with_reducible apply go_kln)
           | (with_reducible apply go_again_nil)
           | ((with_reducible apply go_again); rfl; (intro id'))
           | ((with_reducible apply go_kagain); rfl)
           | (with_reducible apply go_kseq)
           | (with_reducible apply go_ksuf)
           | (with_reducible apply go_kseq_ret)
           | ((with_reducible apply end_bool); rfl)
           | (with_reducible rfl)
  all_goals try exact absurd rfl ‹_›
  all_goals try (exfalso; omega)
  refine go_count m.levels.length (fun i => ⟨[(14, .int .i64 i), (5, .op 2 0 0), (8, .op 4 0 0), (3, .op 1 0 0)], [(1, ⟨6, true, [encGrid m]⟩), (2, ⟨6, false, [encG5 m ++ [.os 3 0 S.length]]⟩), (3, ⟨1, true, S.map encInt⟩), (4, ⟨6, false, [encG5 m ++ [.os 5 0 H.length]]⟩), (5, ⟨1, true, H.map encInt⟩)], 32, 111⟩) (fun _ => True)
    (entails_eq (nx := 32) (k := 1) (ns := []) (ks := [14, 5, 8, 3]) [(32, 1), (672, 2), (517, 3), (1024, 4), (869, 5)] rfl (by simp) (by kernel_rfl)) trivial ?_
  intro i hi _
  by_cases hlt : i < m.levels.length
  · have b1 := hle i hlt
    rw [lv_get (show i < S.length by omega), lv_get (show i < H.length by omega)] at b1
    repeat' first
           | (with_reducible apply go_op)
           | (with_reducible apply go_next)
           | ((with_reducible (show evOp _ _ _ _ _ _)); first
             | ((with_reducible (show evOp _ (.move _) _ _ _ _)) ; first | ((with_reducible apply go_mv_int); rfl; rfl) | ((with_reducible apply go_mv_bool); rfl; rfl))
             | ((with_reducible apply go_as))
             | ((with_reducible (show evOp _ (.load _ _) _ _ _ _)) ; first | ((with_reducible apply go_load_om); rfl; rfl; rfl; rfl; rotate_left; assumption) | ((with_reducible apply go_load_own); rfl; rfl; rfl; rfl))
             | (((with_reducible apply go_fieldAddr_own); rfl; rfl; rfl))
             | (((with_reducible apply go_index_om); rfl; rfl; rfl; (with_reducible rfl); rfl; rfl; omega; (intro hlt)))
             | ((with_reducible (show evOp _ (.binOp _ _ _ _ _) _ _ _ _)) ; first | ((with_reducible apply go_cmp); rfl; rfl; rfl; rfl) | ((with_reducible apply go_add); rfl; rfl; rfl; omega))
             | (((with_reducible apply go_len); rfl; rfl)))
           | ((with_reducible (show evOps _ _ _ _ _ _)); first
             | (with_reducible apply go_nil)
             | ((with_reducible apply go_pre); rfl)
             | (with_reducible apply go_pre_nil)
             | ((with_reducible apply go_suf); rfl)
             | (with_reducible apply go_suf_nil))
           | ((with_reducible (show ev _ _ _ _)); first
             | (with_reducible apply go_seq)
             | (with_reducible apply go_region)
             | (((with_reducible apply go_cond); rfl) <;> (intro h; simp only [h]; try simp only [decide_eq_true_eq, decide_eq_false_iff_not, Bool.not_eq_true', Bool.not_eq_false', Bool.not_true, Bool.not_false] at h; try exact absurd trivial h))
             | ((with_reducible apply go_order); kernel_rfl; rfl)
             | (with_reducible apply go_ret)
             | (with_reducible apply go_skipc)
             | (with_reducible apply go_block)
             | (with_reducible apply go_exit))
           | (with_reducible apply go_kseq)
           | (with_reducible apply go_ksuf)
           | (with_reducible apply go_kseq_ret)
           | (with_reducible apply go_kblock)
           | (with_reducible apply go_kblock_ret)
           | (with_reducible apply go_kblock_exit)
           | (with_reducible apply go_kseq_exit)
           | ((with_reducible apply end_bool); rfl)
           | (with_reducible rfl)
    all_goals first
      | exact absurd hlt (by omega)
      | (exfalso; omega)
      | exact ⟨‹i < m.levels.length›, trivial, entails_eq (nx := 32) (k := 1) (ns := []) (ks := [14, 5, 8, 3]) [(1, 1), (2, 2), (3, 3), (4, 4), (5, 5)] rfl (by simp) (by kernel_rfl)⟩
      | trace_state
  · repeat' first
           | (with_reducible apply go_op)
           | (with_reducible apply go_next)
           | ((with_reducible (show evOp _ _ _ _ _ _)); first
             | ((with_reducible (show evOp _ (.move _) _ _ _ _)) ; first | ((with_reducible apply go_mv_int); rfl; rfl) | ((with_reducible apply go_mv_bool); rfl; rfl))
             | ((with_reducible apply go_as))
             | ((with_reducible (show evOp _ (.load _ _) _ _ _ _)) ; first | ((with_reducible apply go_load_om); rfl; rfl; rfl; rfl; rotate_left; assumption) | ((with_reducible apply go_load_own); rfl; rfl; rfl; rfl))
             | (((with_reducible apply go_fieldAddr_own); rfl; rfl; rfl))
             | (((with_reducible apply go_index_om); rfl; rfl; rfl; (with_reducible rfl); rfl; rfl; omega; (intro hlt)))
             | ((with_reducible (show evOp _ (.binOp _ _ _ _ _) _ _ _ _)) ; first | ((with_reducible apply go_cmp); rfl; rfl; rfl; rfl) | ((with_reducible apply go_add); rfl; rfl; rfl; omega))
             | (((with_reducible apply go_len); rfl; rfl)))
           | ((with_reducible (show evOps _ _ _ _ _ _)); first
             | (with_reducible apply go_nil)
             | ((with_reducible apply go_pre); rfl)
             | (with_reducible apply go_pre_nil)
             | ((with_reducible apply go_suf); rfl)
             | (with_reducible apply go_suf_nil))
           | ((with_reducible (show ev _ _ _ _)); first
             | (with_reducible apply go_seq)
             | (with_reducible apply go_region)
             | (((with_reducible apply go_cond); rfl) <;> (intro h; simp only [h]; try simp only [decide_eq_true_eq, decide_eq_false_iff_not, Bool.not_eq_true', Bool.not_eq_false', Bool.not_true, Bool.not_false] at h; try exact absurd trivial h))
             | ((with_reducible apply go_order); kernel_rfl; rfl)
             | (with_reducible apply go_ret)
             | (with_reducible apply go_skipc)
             | (with_reducible apply go_block)
             | (with_reducible apply go_exit))
           | (with_reducible apply go_kseq)
           | (with_reducible apply go_ksuf)
           | (with_reducible apply go_kseq_ret)
           | (with_reducible apply go_kblock)
           | (with_reducible apply go_kblock_ret)
           | (with_reducible apply go_kblock_exit)
           | (with_reducible apply go_kseq_exit)
           | ((with_reducible apply end_bool); rfl)
           | (with_reducible rfl)
    all_goals first
      | exact absurd hlt (by omega)
      | rfl
      | trace_state

theorem c5 (g : Ground) (m : Grid) (hl : m.levels.length ≤ 9223372036854775807) : Contract Try.prog 5 [.agg (encGround g), .agg (encGrid m)] (.ret (.bool true)) := by
  cases hs : slightE g
  · exact slight5 g m hs
  · by_cases hm : 200 < m.levels.length
    · exact much5 g m hl hs hm
    · by_cases hge : griddedE g [m] = 0
      · exact good5 g m (by omega) hs hge
      · exact bad5 g m (by omega) hs hge
end Go.Pv.Soil

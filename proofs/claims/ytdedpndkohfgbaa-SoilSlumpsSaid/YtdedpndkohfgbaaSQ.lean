import Derived.Test.YtdedpndkohfgbaaProg
import Derived.Test.YtdedpndkohfgbaaSP
import Derived.KernelRfl
/- Part of the proofs over Ytdedpndkohfgbaa: S44. -/
set_option linter.unusedVariables false
set_option linter.unusedSimpArgs false
set_option linter.unnecessarySimpa false
open Go Go.Proofs Go.Pv
set_option maxHeartbeats 4000000
set_option maxRecDepth 100000
set_option linter.unusedSimpArgs false
set_option linter.unusedVariables false
namespace Go.Pv.Soil

theorem total_neg : ∀ l : List Int, total (-1) l = -total 1 l
  | [] => rfl
  | a :: l => by
    have := total_neg l
    simp only [total, List.map_cons, List.sum_cons] at this ⊢
    omega
theorem known_of {w : Int} {m s : List Int} (h : Beyond w m s) : ∀ i, i < m.length → (lv s i = 30000 ↔ lv m i = 30000) := fun i hi => (h.2 i hi).1
theorem same_refl (a : Grid) : sameE a a = true := by simp [sameE, alikeE]

theorem fall_down {g : Ground} (hg : OkG g) {m : Grid} (hm : OkGrid m) : fallN m (gridL m (slumpE g m (-1))) m.levels.length = fallE g m (-1) := by
  have h := slumpE_gs hg hm (.inl rfl)
  have e := fallN_eq (b := m) (a := gridL m (slumpE g m (-1))) h.below.1 (known_of h.below) m.levels.length (Nat.le_refl _)
  rw [e, fallE]
  show (total (-1) ((slumpE g m (-1)).take m.levels.length) - total (-1) (m.levels.take m.levels.length)) * m.side * m.side = _
  rw [List.take_of_length_le (Nat.le_refl _), List.take_of_length_le (by rw [h.below.1]; exact Nat.le_refl _)]
theorem fall_up {g : Ground} (hg : OkG g) {m : Grid} (hm : OkGrid m) : fallN (gridL m (slumpE g m 1)) m (gridL m (slumpE g m 1)).levels.length = fallE g m 1 := by
  have h := slumpE_gs hg hm (.inr rfl)
  have e := fallN_eq (b := gridL m (slumpE g m 1)) (a := m) h.below.1.symm (fun i hi => (known_of h.below i (by rw [← h.below.1]; exact hi)).symm) (gridL m (slumpE g m 1)).levels.length (Nat.le_refl _)
  rw [e, fallE]
  show (total (-1) (m.levels.take (slumpE g m 1).length) - total (-1) ((slumpE g m 1).take (slumpE g m 1).length)) * m.side * m.side = _
  rw [List.take_of_length_le (Nat.le_refl _), List.take_of_length_le (by rw [h.below.1]; exact Nat.le_refl _), total_neg, total_neg]
  congr 2
  omega

theorem gridded_first (g : Ground) (m : Grid) : firstOf [groundE g, gridE m] = griddedE g [m] := by
  unfold griddedE
  simp only [List.map_cons, List.map_nil, firstOf]
  (repeat' split) <;> first | rfl | omega

theorem slight4 (g : Ground) (m : Grid) (hs : slightE g = false) : Contract Try.prog 4 [.agg (encGround g), .agg (encGrid m)] (.ret (.bool true)) := by
  have h19 := c19 g
  rw [hs] at h19
  refine contract_of mix Try.func4 rfl rfl (by rw [Try.ntmps4]; exact Nat.le_of_ble_eq_true rfl) ?_; rw [Try.results4, Try.ntmps4]; simp only [argsE, Nat.reduceAdd]
  repeat' first
           | (with_reducible apply go_op)
           | (with_reducible apply go_next)
           | ((with_reducible (show evOp _ _ _ _ _ _)); first
             | (((with_reducible apply go_mv_bool); rfl; rfl))
             | ((with_reducible apply go_as))
             | (((with_reducible apply go_ld_agg); rfl; rfl; rfl; rfl))
             | ((with_reducible (show evOp _ (.call _) _ _ _ _)) ; first | ((with_reducible apply go_fn_bool); rfl; (exact c18); rfl) | ((with_reducible apply go_fn_bool); rfl; (exact h19); rfl))
             | (((with_reducible apply go_not); rfl; rfl))
             | (((with_reducible apply go_pick); rfl; rfl; rfl))
             | (((with_reducible apply go_bx_agg); rfl; rfl; (exact Nat.le_of_ble_eq_true rfl); rfl; rfl)))
           | ((with_reducible (show evOps _ _ _ _ _ _)); first
             | (with_reducible apply go_nil)
             | ((with_reducible apply go_pass); rfl; rfl; rfl))
           | ((with_reducible (show ev _ _ _ _)); first
             | (with_reducible apply go_seq)
             | (with_reducible apply go_region)
             | ((with_reducible apply go_cond_t); rfl; rfl)
             | ((with_reducible apply go_cond_f); rfl; rfl)
             | (with_reducible apply go_ret)
             | (with_reducible apply go_skipc))
           | (with_reducible apply go_kseq)
           | (with_reducible apply go_kseq_ret)
           | ((with_reducible apply end_bool); rfl)
           | (with_reducible rfl)
theorem much4 (g : Ground) (m : Grid) (hs : slightE g = true) (hm : 30 < m.levels.length) : Contract Try.prog 4 [.agg (encGround g), .agg (encGrid m)] (.ret (.bool true)) := by
  have h19 := c19 g
  rw [hs] at h19
  have h24 : Contract Try.prog 24 [.agg (encGrid m)] (.ret (.bool false)) := by
    have := c24 m
    rwa [decide_eq_false (by omega)] at this
  refine contract_of mix Try.func4 rfl rfl (by rw [Try.ntmps4]; exact Nat.le_of_ble_eq_true rfl) ?_; rw [Try.results4, Try.ntmps4]; simp only [argsE, Nat.reduceAdd]
  repeat' first
           | (with_reducible apply go_op)
           | (with_reducible apply go_next)
           | ((with_reducible (show evOp _ _ _ _ _ _)); first
             | (((with_reducible apply go_mv_bool); rfl; rfl))
             | ((with_reducible apply go_as))
             | (((with_reducible apply go_ld_agg); rfl; rfl; rfl; rfl))
             | ((with_reducible (show evOp _ (.call _) _ _ _ _)) ; first | ((with_reducible apply go_fn_bool); rfl; (exact c18); rfl) | ((with_reducible apply go_fn_bool); rfl; (exact h19); rfl) | ((with_reducible apply go_fn_bool); rfl; (exact h24); rfl))
             | (((with_reducible apply go_not); rfl; rfl))
             | (((with_reducible apply go_pick); rfl; rfl; rfl))
             | (((with_reducible apply go_bx_agg); rfl; rfl; (exact Nat.le_of_ble_eq_true rfl); rfl; rfl)))
           | ((with_reducible (show evOps _ _ _ _ _ _)); first
             | (with_reducible apply go_nil)
             | ((with_reducible apply go_run); rfl; rfl))
           | ((with_reducible (show ev _ _ _ _)); first
             | (with_reducible apply go_seq)
             | (with_reducible apply go_region)
             | ((with_reducible apply go_cond_t); rfl; rfl)
             | ((with_reducible apply go_cond_f); rfl; rfl)
             | (with_reducible apply go_ret)
             | (with_reducible apply go_skipc))
           | (with_reducible apply go_kseq)
           | (with_reducible apply go_kseq_ret)
           | ((with_reducible apply end_bool); rfl)
           | (with_reducible rfl)

theorem bad4 (g : Ground) (m : Grid) (hl : m.levels.length ≤ 30) (hs : slightE g = true) (hge : griddedE g [m] ≠ 0) : Contract Try.prog 4 [.agg (encGround g), .agg (encGrid m)] (.ret (.bool true)) := by
  have h19 := c19 g
  rw [hs] at h19
  have hl2 := slight_len hs
  have hsl : g.soils.length < 1000000000000 := by omega
  have hbl : g.borings.length < 1000000000000 := by omega
  have h24 : Contract Try.prog 24 [.agg (encGrid m)] (.ret (.bool true)) := by
    have := c24 m
    rwa [decide_eq_true hl] at this
  have h25 := c25 g hsl hbl m (by omega)
  have h26 := c26 g hsl hbl m (by omega)
  have h23 := c23 g hsl hbl
  have h28 := c28 m (by omega)
  have h27 : Contract Try.prog 27 [.sl [[.int .i64 (groundE g)], [.int .i64 (gridE m)]]] (.ret (.int .i64 (griddedE g [m]))) := gridded_first g m ▸ c27 [groundE g, gridE m] (by simp)
  rw [slumpR_bad hge] at h25 h26
  have h29 : Contract Try.prog 29 [.agg (encG5 zeroG ++ [.sl ([].map encInt)])] (.ret (.bool true)) := by
    have := c29 zeroG (by decide)
    rwa [same_refl] at this
  generalize griddedE g [m] = ge at *
  generalize groundE g = g1 at *
  generalize gridE m = g2 at *
  refine contract_of mix Try.func4 rfl rfl (by rw [Try.ntmps4]; exact Nat.le_of_ble_eq_true rfl) ?_; rw [Try.results4, Try.ntmps4]; simp only [argsE, Nat.reduceAdd]
  repeat' first
           | (with_reducible apply go_op)
           | (with_reducible apply go_next)
           | ((with_reducible (show evOp _ _ _ _ _ _)); first
             | ((with_reducible (show evOp _ (.move _) _ _ _ _)) ; first | ((with_reducible apply go_mv_int); rfl; rfl) | ((with_reducible apply go_mv_bool); rfl; rfl) | ((with_reducible apply go_mv_tup); rfl; rfl))
             | ((with_reducible apply go_as))
             | (((with_reducible apply go_ld_agg); rfl; rfl; rfl; rfl))
             | (((with_reducible apply go_cmp); rfl; rfl; rfl; rfl))
             | ((with_reducible (show evOp _ (.call _) _ _ _ _)) ; first | ((with_reducible apply go_fn_bool); rfl; (exact c18); rfl) | ((with_reducible apply go_fn_bool); rfl; (exact h19); rfl) | ((with_reducible apply go_fn_bool); rfl; (exact h24); rfl) | ((with_reducible apply (go_fn_agf3 (cs := encG5 zeroG))); rfl; (exact h25); (exact scalInt); rfl; rfl; rfl; rfl; rfl; rfl; rfl) | ((with_reducible apply (go_fn_agf3 (cs := encG5 zeroG))); rfl; (exact h26); (exact scalInt); rfl; rfl; rfl; rfl; rfl; rfl; rfl) | ((with_reducible apply go_fn_int); rfl; (exact h23); rfl) | ((with_reducible apply go_fn_int); rfl; (exact h28); rfl) | ((with_reducible apply go_fn_int); rfl; (exact h27); rfl) | ((with_reducible apply go_fn_bool); (exact purL_agf (cs := encG5 zeroG) rfl (by simp; try assumption) rfl rfl rfl); (exact h29); rfl))
             | (((with_reducible apply go_st_agg); rfl; rfl; rfl; rfl; rfl; rfl; rfl))
             | (((with_reducible apply go_not); rfl; rfl))
             | (((with_reducible apply go_extract); rfl; rfl))
             | (((with_reducible apply go_pick); rfl; rfl; rfl))
             | (((with_reducible apply go_bx_agg); rfl; rfl; (exact Nat.le_of_ble_eq_true rfl); rfl; rfl))
             | (((with_reducible apply go_alloc); rfl; rfl; rfl))
             | (((with_reducible apply go_bs2_int); rfl; rfl; rfl; rfl)))
           | ((with_reducible (show evOps _ _ _ _ _ _)); first
             | (with_reducible apply go_nil)
             | ((with_reducible apply go_run); rfl; rfl)
             | (((with_reducible apply go_guard); rfl) <;> (intro h; simp only [h, Bool.not_true, Bool.not_false]; (try with_reducible (refine ⟨rfl, ?_⟩)); try simp only [decide_eq_true_eq, decide_eq_false_iff_not, Bool.not_eq_true', Bool.not_eq_false', Bool.not_true, Bool.not_false] at h; try exact absurd trivial h))
             | ((with_reducible apply go_pre); rfl)
             | (with_reducible apply go_pre_nil)
             | ((with_reducible apply go_suf); rfl)
             | (with_reducible apply go_suf_nil))
           | ((with_reducible (show ev _ _ _ _)); first
             | (with_reducible apply go_seq)
             | (with_reducible apply go_region)
             | ((with_reducible apply go_cond_f); rfl; rfl)
             | (((with_reducible apply go_cond); rfl) <;> (intro h; simp only [h]; try simp only [decide_eq_true_eq, decide_eq_false_iff_not, Bool.not_eq_true', Bool.not_eq_false', Bool.not_true, Bool.not_false] at h; try exact absurd trivial h))
             | ((with_reducible apply go_order); kernel_rfl; rfl)
             | (with_reducible apply go_ret)
             | (with_reducible apply go_skipc))
           | (with_reducible apply go_kseq)
           | (with_reducible apply go_ksuf)
           | (with_reducible apply go_kseq_ret)
           | ((with_reducible apply end_bool); rfl)
  all_goals first | exact absurd ‹ge = 0› hge | simp

theorem good4 (g : Ground) (m : Grid) (hl : m.levels.length ≤ 30) (hs : slightE g = true) (hge : griddedE g [m] = 0) : Contract Try.prog 4 [.agg (encGround g), .agg (encGrid m)] (.ret (.bool true)) := by
  have h19 := c19 g
  rw [hs] at h19
  have hl2 := slight_len hs
  have hsl : g.soils.length < 1000000000000 := by omega
  have hbl : g.borings.length < 1000000000000 := by omega
  have h24 : Contract Try.prog 24 [.agg (encGrid m)] (.ret (.bool true)) := by
    have := c24 m
    rwa [decide_eq_true hl] at this
  have h25 := c25 g hsl hbl m (by omega)
  have h26 := c26 g hsl hbl m (by omega)
  have h23 := c23 g hsl hbl
  have h28 := c28 m (by omega)
  have h27 : Contract Try.prog 27 [.sl [[.int .i64 (groundE g)], [.int .i64 (gridE m)]]] (.ret (.int .i64 (griddedE g [m]))) := gridded_first g m ▸ c27 [groundE g, gridE m] (by simp)
  obtain ⟨h1, h2⟩ := gridded1 hge
  have hm := okGrid h2
  have hg := okG h1
  rw [slumpR_ok hge] at h25 h26
  rw [hge] at h27
  have h30 := c30 g hg hsl m hm
  have h31 := c31 g hg hsl m hm
  have hS := (slumpE_gs hg hm (.inl rfl)).below.1
  have hH := (slumpE_gs hg hm (.inr rfl)).below.1
  have h33a : Contract Try.prog 33 [.agg (encGrid m), .agg (encG5 m ++ [.sl ((slumpE g m (-1)).map encInt)])] (.ret (.int .i64 (fallE g m (-1)))) := by
    have := c33 m (gridL m (slumpE g m (-1))) hm (slumpE_ok hg hm (.inl rfl)) hS
    rwa [fall_down hg hm] at this
  have h33b : Contract Try.prog 33 [.agg (encG5 m ++ [.sl ((slumpE g m 1).map encInt)]), .agg (encGrid m)] (.ret (.int .i64 (fallE g m 1))) := by
    have := c33 (gridL m (slumpE g m 1)) m (slumpE_ok hg hm (.inr rfl)) hm hH.symm
    rwa [fall_up hg hm] at this
  have hsm := hm.small
  have h32a : Contract Try.prog 32 [.agg (encG5 m ++ [.sl ((slumpE g m (-1)).map encInt)]), .agg (encG5 m ++ [.sl ((slumpE g m (-1)).map encInt)])] (.ret (.bool true)) := by
    have := c32 (gridL m (slumpE g m (-1))) (gridL m (slumpE g m (-1))) (by show (slumpE g m (-1)).length < 1000000000000; omega)
    rwa [same_refl] at this
  have h32b : Contract Try.prog 32 [.agg (encG5 m ++ [.sl ((slumpE g m 1).map encInt)]), .agg (encG5 m ++ [.sl ((slumpE g m 1).map encInt)])] (.ret (.bool true)) := by
    have := c32 (gridL m (slumpE g m 1)) (gridL m (slumpE g m 1)) (by show (slumpE g m 1).length < 1000000000000; omega)
    rwa [same_refl] at this
  have h25 : Contract Try.prog 25 [.agg (encGround g), .agg (encGrid m)] (.ret (.tup [.agg (encG5 m ++ [.fr 1 ((slumpE g m (-1)).map encInt)]), .int .i64 (fallE g m (-1)), .int .i64 0])) := h25
  have h26 : Contract Try.prog 26 [.agg (encGround g), .agg (encGrid m)] (.ret (.tup [.agg (encG5 m ++ [.fr 1 ((slumpE g m 1).map encInt)]), .int .i64 (fallE g m 1), .int .i64 0])) := h26
  generalize slumpE g m (-1) = S at *
  generalize slumpE g m 1 = H at *
  generalize fallE g m (-1) = v at *
  generalize fallE g m 1 = w at *
  generalize groundE g = g1 at *
  generalize gridE m = g2 at *
  refine contract_of mix Try.func4 rfl rfl (by rw [Try.ntmps4]; exact Nat.le_of_ble_eq_true rfl) ?_; rw [Try.results4, Try.ntmps4]; simp only [argsE, Nat.reduceAdd]
  repeat' first
           | (with_reducible apply go_op)
           | (with_reducible apply go_next)
           | ((with_reducible (show evOp _ _ _ _ _ _)); first
             | ((with_reducible (show evOp _ (.move _) _ _ _ _)) ; first | ((with_reducible apply go_mv_int); rfl; rfl) | ((with_reducible apply go_mv_bool); rfl; rfl) | ((with_reducible apply go_mv_tup); rfl; rfl))
             | ((with_reducible apply go_as))
             | (((with_reducible apply go_ld_agg); rfl; rfl; rfl; rfl))
             | (((with_reducible apply go_cmp); rfl; rfl; rfl; rfl))
             | ((with_reducible (show evOp _ (.call _) _ _ _ _)) ; first | ((with_reducible apply go_fn_bool); rfl; (exact c18); rfl) | ((with_reducible apply go_fn_bool); rfl; (exact h19); rfl) | ((with_reducible apply go_fn_bool); rfl; (exact h24); rfl) | ((with_reducible apply (go_fn_agf3 (cs := encG5 m))); rfl; (exact h25); (exact scalInt); rfl; rfl; rfl; rfl; rfl; rfl; rfl) | ((with_reducible apply (go_fn_agf3 (cs := encG5 m))); rfl; (exact h26); (exact scalInt); rfl; rfl; rfl; rfl; rfl; rfl; rfl) | ((with_reducible apply go_fn_int); rfl; (exact h23); rfl) | ((with_reducible apply go_fn_int); rfl; (exact h28); rfl) | ((with_reducible apply go_fn_int); rfl; (exact h27); rfl) | ((with_reducible apply (go_fn_agf (cs := encG5 m))); rfl; (exact h30); (exact scalInt); rfl; rfl; rfl; rfl; rfl) | ((with_reducible apply (go_fn_agf (cs := encG5 m))); rfl; (exact h31); (exact scalInt); rfl; rfl; rfl; rfl; rfl) | ((with_reducible apply go_fn_bool); (exact purL_agf_agf (cs := encG5 m) (cs2 := encG5 m) rfl (by simp; try assumption) rfl rfl rfl (by simp; try assumption) rfl rfl); (exact h32a); rfl) | ((with_reducible apply go_fn_bool); (exact purL_agf_agf (cs := encG5 m) (cs2 := encG5 m) rfl (by simp; try assumption) rfl rfl rfl (by simp; try assumption) rfl rfl); (exact h32b); rfl) | ((with_reducible apply go_fn_int); (exact purL_agf2 (cs := encG5 m) rfl rfl (by simp; try assumption) rfl rfl rfl); (exact h33a); rfl) | ((with_reducible apply go_fn_int); (exact purL_agf (cs := encG5 m) rfl (by simp; try assumption) rfl rfl rfl); (exact h33b); rfl))
             | (((with_reducible apply go_st_agg); rfl; rfl; rfl; rfl; rfl; rfl; rfl))
             | (((with_reducible apply go_not); rfl; rfl))
             | (((with_reducible apply go_extract); rfl; rfl))
             | (((with_reducible apply go_pick); rfl; rfl; rfl))
             | (((with_reducible apply go_bx_agg); rfl; rfl; (exact Nat.le_of_ble_eq_true rfl); rfl; rfl))
             | (((with_reducible apply go_alloc); rfl; rfl; rfl))
             | (((with_reducible apply go_bs2_int); rfl; rfl; rfl; rfl)))
           | ((with_reducible (show evOps _ _ _ _ _ _)); first
             | (with_reducible apply go_nil)
             | ((with_reducible apply go_run); rfl; rfl)
             | (((with_reducible apply go_guard); rfl) <;> (intro h; simp only [h, Bool.not_true, Bool.not_false]; (try with_reducible (refine ⟨rfl, ?_⟩)); try simp only [decide_eq_true_eq, decide_eq_false_iff_not, Bool.not_eq_true', Bool.not_eq_false', Bool.not_true, Bool.not_false] at h; try exact absurd trivial h))
             | ((with_reducible apply go_pre); rfl)
             | ((with_reducible apply go_pre_stop); rfl)
             | (with_reducible apply go_pre_nil)
             | ((with_reducible apply go_suf); rfl)
             | ((with_reducible apply go_suf_stop); rfl)
             | (with_reducible apply go_suf_nil))
           | ((with_reducible (show ev _ _ _ _)); first
             | (with_reducible apply go_seq)
             | (with_reducible apply go_region)
             | ((with_reducible apply go_cond_f); rfl; rfl)
             | ((with_reducible apply go_order); kernel_rfl; rfl)
             | (with_reducible apply go_ret)
             | (with_reducible apply go_skipc))
           | (with_reducible apply go_kseq)
           | (with_reducible apply go_ksuf)
           | ((with_reducible apply end_bool); rfl)
  all_goals first | exact absurd rfl ‹_› | simp

theorem c4 (g : Ground) (m : Grid) : Contract Try.prog 4 [.agg (encGround g), .agg (encGrid m)] (.ret (.bool true)) := by
  cases hs : slightE g
  · exact slight4 g m hs
  · by_cases hm : 30 < m.levels.length
    · exact much4 g m hs hm
    · by_cases hge : griddedE g [m] = 0
      · exact good4 g m (by omega) hs hge
      · exact bad4 g m (by omega) hs hge
end Go.Pv.Soil

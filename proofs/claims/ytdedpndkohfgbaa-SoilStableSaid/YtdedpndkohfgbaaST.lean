import Derived.Test.YtdedpndkohfgbaaProg
import Derived.Test.YtdedpndkohfgbaaSS
import Derived.KernelRfl
/- Part of the proofs over Ytdedpndkohfgbaa: S47. -/
set_option linter.unusedVariables false
set_option linter.unusedSimpArgs false
set_option linter.unnecessarySimpa false
open Go Go.Proofs Go.Pv
set_option maxHeartbeats 8000000
set_option maxRecDepth 100000
set_option linter.unusedSimpArgs false
set_option linter.unusedVariables false
namespace Go.Pv.Soil

theorem slight8 (g : Ground) (m o : Grid) (hs : slightE g = false) : Contract Try.prog 8 [.agg (encGround g), .agg (encGrid m), .agg (encGrid o)] (.ret (.bool true)) := by
  have h19 := c19 g
  rw [hs] at h19
  refine contract_of mix Try.func8 rfl rfl (by rw [Try.ntmps8]; exact Nat.le_of_ble_eq_true rfl) ?_; rw [Try.results8, Try.ntmps8]; simp only [argsE, Nat.reduceAdd]
  repeat' first
           | (with_reducible apply go_op)
           | (with_reducible apply go_next)
           | ((with_reducible (show evOp _ _ _ _ _ _)); first
             | (((with_reducible apply go_mv_bool); rfl; rfl))
             | ((with_reducible apply go_as))
             | (((with_reducible apply go_ld_agg); rfl; rfl; rfl; rfl))
             | ((with_reducible (show evOp _ (.call _) _ _ _ _)) ; first | ((with_reducible apply go_fn_bool); rfl; (exact c18); rfl) | ((with_reducible apply go_fn_bool); rfl; (exact h19); rfl))
             | (((with_reducible apply go_not); rfl; rfl))
             | (((with_reducible apply go_pick); rfl; rfl; rfl))
             | (((with_reducible apply go_bx_agg); rfl; rfl; (exact Nat.le_of_ble_eq_true rfl); rfl; rfl)))
           | ((with_reducible (show evOps _ _ _ _ _ _)); first
             | (with_reducible apply go_nil)
             | ((with_reducible apply go_pass); rfl; rfl; rfl))
           | ((with_reducible (show ev _ _ _ _)); first
             | (with_reducible apply go_seq)
             | (with_reducible apply go_region)
             | ((with_reducible apply go_cond_t); rfl; rfl)
             | ((with_reducible apply go_cond_f); rfl; rfl)
             | (with_reducible apply go_ret)
             | (with_reducible apply go_skipc))
           | (with_reducible apply go_kseq)
           | (with_reducible apply go_kseq_ret)
           | ((with_reducible apply end_bool); rfl)
           | (with_reducible rfl)
theorem much8 (g : Ground) (m o : Grid) (hl : m.levels.length ≤ 9223372036854775807) (hlo : o.levels.length ≤ 9223372036854775807) (hs : slightE g = true) (hm : 200 < m.levels.length ∨ 200 < o.levels.length) : Contract Try.prog 8 [.agg (encGround g), .agg (encGrid m), .agg (encGrid o)] (.ret (.bool true)) := by
  have h19 := c19 g
  rw [hs] at h19
  refine contract_of mix Try.func8 rfl rfl (by rw [Try.ntmps8]; exact Nat.le_of_ble_eq_true rfl) ?_; rw [Try.results8, Try.ntmps8]; simp only [argsE, Nat.reduceAdd]
  repeat' first
           | (with_reducible apply go_op)
           | (with_reducible apply go_next)
           | ((with_reducible (show evOp _ _ _ _ _ _)); first
             | (((with_reducible apply go_mv_bool); rfl; rfl))
             | ((with_reducible apply go_as))
             | ((with_reducible (show evOp _ (.load _ _) _ _ _ _)) ; first | ((with_reducible apply go_ld_agg); rfl; rfl; rfl; rfl) | ((with_reducible apply go_load_own); rfl; rfl; rfl; rfl))
             | (((with_reducible apply go_fieldAddr_own); rfl; rfl; rfl))
             | (((with_reducible apply go_cmp); rfl; rfl; rfl; rfl))
             | ((with_reducible (show evOp _ (.call _) _ _ _ _)) ; first | ((with_reducible apply go_len); rfl; rfl) | ((with_reducible apply go_fn_bool); rfl; (exact c18); rfl) | ((with_reducible apply go_fn_bool); rfl; (exact h19); rfl))
             | (((with_reducible apply go_not); rfl; rfl))
             | (((with_reducible apply go_pick); rfl; rfl; rfl))
             | (((with_reducible apply go_bx_agg); rfl; rfl; (exact Nat.le_of_ble_eq_true rfl); rfl; rfl)))
           | ((with_reducible (show evOps _ _ _ _ _ _)); first
             | (with_reducible apply go_nil)
             | ((with_reducible apply go_run); rfl; rfl)
             | ((with_reducible apply go_pass); rfl; rfl; rfl)
             | (((with_reducible apply go_guard); rfl) <;> (intro h; simp only [h, Bool.not_true, Bool.not_false]; (try with_reducible (refine ⟨rfl, ?_⟩)); try simp only [decide_eq_true_eq, decide_eq_false_iff_not, Bool.not_eq_true', Bool.not_eq_false', Bool.not_true, Bool.not_false] at h; try exact absurd trivial h)))
           | ((with_reducible (show ev _ _ _ _)); first
             | (with_reducible apply go_seq)
             | (with_reducible apply go_region)
             | ((with_reducible apply go_cond_t); rfl; rfl)
             | ((with_reducible apply go_cond_f); rfl; rfl)
             | (((with_reducible apply go_cond); rfl) <;> (intro h; simp only [h]; try simp only [decide_eq_true_eq, decide_eq_false_iff_not, Bool.not_eq_true', Bool.not_eq_false', Bool.not_true, Bool.not_false] at h; try exact absurd trivial h))
             | (with_reducible apply go_ret)
             | (with_reducible apply go_skipc))
           | (with_reducible apply go_kseq)
           | (with_reducible apply go_kseq_ret)
           | ((with_reducible apply end_bool); rfl)
           | (with_reducible rfl)
  all_goals (exfalso; omega)
theorem bad8 (g : Ground) (m o : Grid) (hl : m.levels.length ≤ 200) (hlo : o.levels.length ≤ 200) (hs : slightE g = true) (hge : griddedE g [m] ≠ 0) : Contract Try.prog 8 [.agg (encGround g), .agg (encGrid m), .agg (encGrid o)] (.ret (.bool true)) := by
  have h19 := c19 g
  rw [hs] at h19
  have hl2 := slight_len hs
  have hsl : g.soils.length < 1000000000000 := by omega
  have hbl : g.borings.length < 1000000000000 := by omega
  have h25 := c25 g hsl hbl m (by omega)
  rw [slumpR_bad hge] at h25
  have h29 : Contract Try.prog 29 [.agg (encG5 zeroG ++ [.sl ([].map encInt)])] (.ret (.bool true)) := by
    have := c29 zeroG (by decide)
    rwa [same_refl'] at this
  generalize griddedE g [m] = ge at *
  refine contract_of mix Try.func8 rfl rfl (by rw [Try.ntmps8]; exact Nat.le_of_ble_eq_true rfl) ?_; rw [Try.results8, Try.ntmps8]; simp only [argsE, Nat.reduceAdd]
  repeat' first
           | (with_reducible apply go_op)
           | (with_reducible apply go_next)
           | ((with_reducible (show evOp _ _ _ _ _ _)); first
             | ((with_reducible (show evOp _ (.move _) _ _ _ _)) ; first | ((with_reducible apply go_mv_int); rfl; rfl) | ((with_reducible apply go_mv_bool); rfl; rfl) | ((with_reducible apply go_mv_tup); rfl; rfl))
             | ((with_reducible apply go_as))
             | ((with_reducible (show evOp _ (.load _ _) _ _ _ _)) ; first | ((with_reducible apply go_ld_agg); rfl; rfl; rfl; rfl) | ((with_reducible apply go_load_own); rfl; rfl; rfl; rfl))
             | (((with_reducible apply go_fieldAddr_own); rfl; rfl; rfl))
             | (((with_reducible apply go_cmp); rfl; rfl; rfl; rfl))
             | ((with_reducible (show evOp _ (.call _) _ _ _ _)) ; first | ((with_reducible apply go_len); rfl; rfl) | ((with_reducible apply go_fn_bool); rfl; (exact c18); rfl) | ((with_reducible apply go_fn_bool); rfl; (exact h19); rfl) | ((with_reducible apply (go_fn_agf3 (cs := encG5 zeroG))); rfl; (exact h25); (exact scalInt); rfl; rfl; rfl; rfl; rfl; rfl; rfl) | ((with_reducible apply go_fn_bool); (exact purL_agf (cs := encG5 zeroG) rfl (by simp; try assumption) rfl rfl rfl); (exact h29); rfl))
             | (((with_reducible apply go_st_agg); rfl; rfl; rfl; rfl; rfl; rfl; rfl))
             | (((with_reducible apply go_not); rfl; rfl))
             | (((with_reducible apply go_extract); rfl; rfl))
             | (((with_reducible apply go_pick); rfl; rfl; rfl))
             | (((with_reducible apply go_bx_agg); rfl; rfl; (exact Nat.le_of_ble_eq_true rfl); rfl; rfl))
             | (((with_reducible apply go_alloc); rfl; rfl; rfl)))
           | ((with_reducible (show evOps _ _ _ _ _ _)); first
             | (with_reducible apply go_nil)
             | ((with_reducible apply go_run); rfl; rfl)
             | ((with_reducible apply go_pass); rfl; rfl; rfl)
             | (((with_reducible apply go_guard); rfl) <;> (intro h; simp only [h, Bool.not_true, Bool.not_false]; (try with_reducible (refine ⟨rfl, ?_⟩)); try simp only [decide_eq_true_eq, decide_eq_false_iff_not, Bool.not_eq_true', Bool.not_eq_false', Bool.not_true, Bool.not_false] at h; try exact absurd trivial h)))
           | ((with_reducible (show ev _ _ _ _)); first
             | (with_reducible apply go_seq)
             | (with_reducible apply go_region)
             | ((with_reducible apply go_cond_t); rfl; rfl)
             | ((with_reducible apply go_cond_f); rfl; rfl)
             | (((with_reducible apply go_cond); rfl) <;> (intro h; simp only [h]; try simp only [decide_eq_true_eq, decide_eq_false_iff_not, Bool.not_eq_true', Bool.not_eq_false', Bool.not_true, Bool.not_false] at h; try exact absurd trivial h))
             | (with_reducible apply go_ret)
             | (with_reducible apply go_skipc))
           | (with_reducible apply go_kseq)
           | (with_reducible apply go_kseq_ret)
           | ((with_reducible apply end_bool); rfl)
           | (with_reducible rfl)
  all_goals first | exact absurd ‹ge = 0› hge | (exfalso; omega) | simp

theorem good8 (g : Ground) (m o : Grid) (hl : m.levels.length ≤ 200) (hlo : o.levels.length ≤ 200) (hs : slightE g = true) (hge : griddedE g [m] = 0) : Contract Try.prog 8 [.agg (encGround g), .agg (encGrid m), .agg (encGrid o)] (.ret (.bool true)) := by
  have h19 := c19 g
  rw [hs] at h19
  have hl2 := slight_len hs
  have hsl : g.soils.length < 1000000000000 := by omega
  have hbl : g.borings.length < 1000000000000 := by omega
  have h25 := c25 g hsl hbl m (by omega)
  obtain ⟨h1, h2⟩ := gridded1 hge
  have hm := okGrid h2
  have hg := okG h1
  rw [slumpR_ok hge] at h25
  have hgS := slumpE_gs hg hm (.inl rfl)
  have hS := hgS.below.1
  have rS := (slumpE_mid hg hm (.inl rfl)).rng
  have hgs := gridded_withL hge hS rS
  have hms : OkGrid (gridL m (slumpE g m (-1))) := slumpE_ok hg hm (.inl rfl)
  have hself : slumpE g m (-1) = slumpE g (gridL m (slumpE g m (-1))) (-1) := slumpE_eq hg hms (.inl rfl) (gs_self hgS.stable)
  have hf0 : fallE g (gridL m (slumpE g m (-1))) (-1) = 0 := by
    unfold fallE
    rw [← hself]
    show (total (-1) (slumpE g m (-1)) - total (-1) (slumpE g m (-1))) * m.side * m.side = 0
    rw [Int.sub_self, Int.zero_mul, Int.zero_mul]
  have hv : 0 ≤ fallE g m (-1) := by
    have := (total_bd (.inl rfl) hgS.below hm.rng rS).1
    exact Int.mul_nonneg (Int.mul_nonneg this (by have := hm.bds.2.1; omega)) (by have := hm.bds.2.1; omega)
  have h25s : Contract Try.prog 25 [.agg (encGround g), .agg (encG5 m ++ [.sl ((slumpE g m (-1)).map encInt)])] (.ret (.tup [.agg (encG5 m ++ [.fr 1 ((slumpE g m (-1)).map encInt)]), .int .i64 0, .int .i64 0])) := by
    have := c25 g hsl hbl (gridL m (slumpE g m (-1))) (by show (slumpE g m (-1)).length < 1000000000000; omega)
    rw [slumpR_ok hgs, hf0, ← hself] at this
    exact this
  have h39s : Contract Try.prog 39 [.agg (encGround g), .agg (encG5 m ++ [.sl ((slumpE g m (-1)).map encInt)])] (.ret (.tup [.fr 3 (([] : List Steep).map encSteep), .int .i64 0])) := by
    have := c39 g hsl hbl (gridL m (slumpE g m (-1))) (by show (slumpE g m (-1)).length < 1000000000000; omega)
    have e : steepsR g (gridL m (slumpE g m (-1))) = [] := by
      unfold steepsR
      rw [if_pos hgs]
      exact (steepL_nil g (gridL m (slumpE g m (-1)))).2 hgS.stable
    rw [e, hgs] at this
    exact this
  have h32 : Contract Try.prog 32 [.agg (encG5 m ++ [.sl ((slumpE g m (-1)).map encInt)]), .agg (encG5 m ++ [.sl ((slumpE g m (-1)).map encInt)])] (.ret (.bool true)) := by
    have := c32 (gridL m (slumpE g m (-1))) (gridL m (slumpE g m (-1))) (by show (slumpE g m (-1)).length < 1000000000000; omega)
    rwa [same_refl'] at this
  have h40s : Contract Try.prog 40 [.agg (encG5 m ++ [.sl ((slumpE g m (-1)).map encInt)]), .agg (encGrid m)] (.ret (.bool true)) := by
    have := c40 (gridL m (slumpE g m (-1))) m
    rwa [show alikeE (gridL m (slumpE g m (-1))) m = true by simp [alikeE, gridL]] at this
  have h39o := c39 g hsl hbl o (by omega)
  have h40o := c40 m o
  have h25 : Contract Try.prog 25 [.agg (encGround g), .agg (encGrid m)] (.ret (.tup [.agg (encG5 m ++ [.fr 1 ((slumpE g m (-1)).map encInt)]), .int .i64 (fallE g m (-1)), .int .i64 0])) := h25
  clear hself hf0 hgs
  generalize slumpE g m (-1) = S at *
  generalize fallE g m (-1) = v at *
  refine contract_of mix Try.func8 rfl rfl (by rw [Try.ntmps8]; exact Nat.le_of_ble_eq_true rfl) ?_; rw [Try.results8, Try.ntmps8]; simp only [argsE, Nat.reduceAdd]
  repeat' first
           | (with_reducible apply go_op)
           | (with_reducible apply go_next)
           | ((with_reducible (show evOp _ _ _ _ _ _)); first
             | ((with_reducible (show evOp _ (.move _) _ _ _ _)) ; first | ((with_reducible apply go_mv_int); rfl; rfl) | ((with_reducible apply go_mv_bool); rfl; rfl) | ((with_reducible apply go_mv_os); rfl; rfl) | ((with_reducible apply go_mv_tup); rfl; rfl))
             | ((with_reducible apply go_as))
             | ((with_reducible (show evOp _ (.load _ _) _ _ _ _)) ; first | ((with_reducible apply go_ld_agg); rfl; rfl; rfl; rfl) | ((with_reducible apply go_load_own); rfl; rfl; rfl; rfl))
             | (((with_reducible apply go_fieldAddr_own); rfl; rfl; rfl))
             | (((with_reducible apply go_cmp); rfl; rfl; rfl; rfl))
             | ((with_reducible (show evOp _ (.call _) _ _ _ _)) ; first | ((with_reducible apply go_len); rfl; rfl) | ((with_reducible apply go_len_own); rfl; rfl; rfl) | ((with_reducible apply go_fn_bool); rfl; (exact c18); rfl) | ((with_reducible apply go_fn_bool); rfl; (exact h19); rfl) | ((with_reducible apply (go_fn_agf3 (cs := encG5 m))); rfl; (exact h25); (exact scalInt); rfl; rfl; rfl; rfl; rfl; rfl; rfl) | ((with_reducible apply go_fn_fr2); (exact purL_agf2 (cs := encG5 m) rfl rfl (by simp; try assumption) rfl rfl rfl); (exact h39s); (exact scalSteep); rfl; rfl) | ((with_reducible apply (go_fn_agf3 (cs := encG5 m))); (exact purL_agf2 (cs := encG5 m) rfl rfl (by simp; try assumption) rfl rfl rfl); (exact h25s); (exact scalInt); rfl; rfl; rfl; rfl; rfl; rfl; rfl) | ((with_reducible apply go_fn_bool); (exact purL_agf_agf (cs := encG5 m) (cs2 := encG5 m) rfl (by simp; try assumption) rfl rfl rfl (by simp; try assumption) rfl rfl); (exact h32); rfl) | ((with_reducible apply go_fn_bool); (exact purL_agf (cs := encG5 m) rfl (by simp; try assumption) rfl rfl rfl); (exact h40s); rfl))
             | (((with_reducible apply go_st_agg); rfl; rfl; rfl; rfl; rfl; rfl; rfl))
             | (((with_reducible apply go_not); rfl; rfl))
             | (((with_reducible apply go_extract); rfl; rfl))
             | (((with_reducible apply go_pick); rfl; rfl; rfl))
             | (((with_reducible apply go_bx_agg); rfl; rfl; (exact Nat.le_of_ble_eq_true rfl); rfl; rfl))
             | (((with_reducible apply go_alloc); rfl; rfl; rfl)))
           | ((with_reducible (show evOps _ _ _ _ _ _)); first
             | (with_reducible apply go_nil)
             | ((with_reducible apply go_run); rfl; rfl)
             | ((with_reducible apply go_pass); rfl; rfl; rfl)
             | (((with_reducible apply go_guard); rfl) <;> (intro h; simp only [h, Bool.not_true, Bool.not_false]; (try with_reducible (refine ⟨rfl, ?_⟩)); try simp only [decide_eq_true_eq, decide_eq_false_iff_not, Bool.not_eq_true', Bool.not_eq_false', Bool.not_true, Bool.not_false] at h; try exact absurd trivial h)))
           | ((with_reducible (show ev _ _ _ _)); first
             | (with_reducible apply go_seq)
             | (with_reducible apply go_region)
             | ((with_reducible apply go_cond_t); rfl; rfl)
             | ((with_reducible apply go_cond_f); rfl; rfl)
             | (((with_reducible apply go_cond); rfl) <;> (intro h; simp only [h]; try simp only [decide_eq_true_eq, decide_eq_false_iff_not, Bool.not_eq_true', Bool.not_eq_false', Bool.not_true, Bool.not_false] at h; try exact absurd trivial h))
             | (with_reducible apply go_ret)
             | (with_reducible apply go_skipc)
             | (with_reducible apply go_block))
           | (with_reducible apply go_kseq)
           | (with_reducible apply go_kseq_ret)
           | ((with_reducible apply end_bool); rfl)
           | (with_reducible rfl)
  all_goals try exact absurd rfl ‹_›
  all_goals try (exfalso; omega)
  refine go_count m.levels.length (fun i => ⟨[(15, .int .i64 i), (7, .op 3 0 0), (3, .op 0 0 0), (4, .op 1 0 0), (5, .op 2 0 0)], [(0, ⟨2, true, [encGround g]⟩), (1, ⟨6, true, [encGrid m]⟩), (2, ⟨6, true, [encGrid o]⟩), (3, ⟨6, false, [encG5 m ++ [.os 4 0 S.length]]⟩), (4, ⟨1, true, S.map encInt⟩)], 32, 195⟩) (fun _ => True)
    (entails_eq (nx := 32) (k := 1) (ns := []) (ks := [15, 7, 3, 4, 5]) [(0, 0), (32, 1), (64, 2), (896, 3), (741, 4)] rfl (by simp) (by kernel_rfl)) trivial ?_
  intro i hi _
  clear h25 h25s h39s h32 h40s
  by_cases hlt : i < m.levels.length
  · have b := hgS.below.2 i hlt
    have hlS : i < S.length := by omega
    have em := lv_get hlt
    have es := lv_get hlS
    have c1 : Contract Try.prog 41 [.agg (encGrid m), .int .i64 i] (.ret (.bool (!decide (lv m.levels i = 30000)))) := c41L m (i : Int) (by omega) (by omega)
    have c2 : Contract Try.prog 41 [.agg (encG5 m ++ [.sl (S.map encInt)]), .int .i64 i] (.ret (.bool (!decide (lv S i = 30000)))) := c41L (gridL m S) (i : Int) (by show 0 ≤ (i : Int) ∧ (i : Int) < S.length; omega) (by show S.length < 1000000000000; omega)
    by_cases hk : lv m.levels i = 30000
    · rw [decide_eq_true hk] at c1
      rw [decide_eq_true (b.1.2 hk)] at c2
      have hks := b.1.2 hk
      repeat' first
           | (with_reducible apply go_op)
           | (with_reducible apply go_next)
           | ((with_reducible (show evOp _ _ _ _ _ _)); first
             | ((with_reducible (show evOp _ (.move _) _ _ _ _)) ; first | ((with_reducible apply go_mv_int); rfl; rfl) | ((with_reducible apply go_mv_bool); rfl; rfl))
             | ((with_reducible apply go_as))
             | ((with_reducible (show evOp _ (.load _ _) _ _ _ _)) ; first | ((with_reducible apply go_load_om); rfl; rfl; rfl; rfl; rotate_left; assumption) | ((with_reducible apply go_ld_agg); rfl; rfl; rfl; rfl) | ((with_reducible apply go_load); rfl; rfl; rfl) | ((with_reducible apply go_load_own); rfl; rfl; rfl; rfl))
             | (((with_reducible apply go_fieldAddr_own); rfl; rfl; rfl))
             | ((with_reducible (show evOp _ (.indexAddr _ _ _) _ _ _ _)) ; first | ((with_reducible apply go_index_nat); rfl; rfl; (with_reducible rfl); (intro; rfl); rfl; omega; (intro hlt)) | ((with_reducible apply go_index_om); rfl; rfl; rfl; (with_reducible rfl); rfl; rfl; omega; (intro hlt)))
             | ((with_reducible (show evOp _ (.binOp _ _ _ _ _) _ _ _ _)) ; first | ((with_reducible apply go_cmp); rfl; rfl; rfl; rfl) | ((with_reducible apply go_add); rfl; rfl; rfl; omega) | ((with_reducible apply go_bin); rfl; rfl))
             | ((with_reducible (show evOp _ (.call _) _ _ _ _)) ; first | ((with_reducible apply go_len); rfl; rfl) | ((with_reducible apply go_fn_bool); rfl; (exact c1); rfl) | ((with_reducible apply go_fn_bool); (exact purL_agf (cs := encG5 m) rfl (by simp; try assumption) rfl rfl rfl); (exact c2); rfl))
             | (((with_reducible apply go_pick); rfl; rfl; rfl)))
           | ((with_reducible (show evOps _ _ _ _ _ _)); first
             | (with_reducible apply go_nil)
             | ((with_reducible apply go_run); rfl; rfl)
             | ((with_reducible apply go_pre); rfl)
             | (with_reducible apply go_pre_nil)
             | ((with_reducible apply go_suf); rfl)
             | (with_reducible apply go_suf_nil))
           | ((with_reducible (show ev _ _ _ _)); first
             | (with_reducible apply go_seq)
             | (with_reducible apply go_region)
             | (((with_reducible apply go_cond); rfl) <;> (intro h; simp only [h]; try simp only [decide_eq_true_eq, decide_eq_false_iff_not, Bool.not_eq_true', Bool.not_eq_false', Bool.not_true, Bool.not_false] at h; try exact absurd trivial h))
             | ((with_reducible apply go_order); kernel_rfl; rfl)
             | (with_reducible apply go_ret)
             | (with_reducible apply go_skipc)
             | (with_reducible apply go_block)
             | (with_reducible apply go_exit))
           | (with_reducible apply go_kseq)
           | (with_reducible apply go_ksuf)
           | (with_reducible apply go_kseq_ret)
           | (with_reducible apply go_kblock)
           | (with_reducible apply go_kblock_ret)
           | (with_reducible apply go_kblock_exit)
           | (with_reducible apply go_kseq_exit)
           | ((with_reducible apply end_bool); rfl)
      all_goals first
        | exact absurd hlt (by omega)
        | (exfalso; omega)
        | exact ⟨‹i < m.levels.length›, trivial, entails_eq (nx := 32) (k := 1) (ns := []) (ks := [15, 7, 3, 4, 5]) [(0, 0), (1, 1), (2, 2), (3, 3), (4, 4)] rfl (by simp) (by kernel_rfl)⟩
        | trace_state
    · rw [decide_eq_false hk] at c1
      rw [decide_eq_false (fun e => hk (b.1.1 e))] at c2
      have b2 := b.2 hk
      repeat' first
           | (with_reducible apply go_op)
           | (with_reducible apply go_next)
           | ((with_reducible (show evOp _ _ _ _ _ _)); first
             | ((with_reducible (show evOp _ (.move _) _ _ _ _)) ; first | ((with_reducible apply go_mv_int); rfl; rfl) | ((with_reducible apply go_mv_bool); rfl; rfl))
             | ((with_reducible apply go_as))
             | ((with_reducible (show evOp _ (.load _ _) _ _ _ _)) ; first | ((with_reducible apply go_load_om); rfl; rfl; rfl; rfl; rotate_left; assumption) | ((with_reducible apply go_ld_agg); rfl; rfl; rfl; rfl) | ((with_reducible apply go_load); rfl; rfl; rfl) | ((with_reducible apply go_load_own); rfl; rfl; rfl; rfl))
             | (((with_reducible apply go_fieldAddr_own); rfl; rfl; rfl))
             | ((with_reducible (show evOp _ (.indexAddr _ _ _) _ _ _ _)) ; first | ((with_reducible apply go_index_nat); rfl; rfl; (with_reducible rfl); (intro; rfl); rfl; omega; (intro hlt)) | ((with_reducible apply go_index_om); rfl; rfl; rfl; (with_reducible rfl); rfl; rfl; omega; (intro hlt)))
             | ((with_reducible (show evOp _ (.binOp _ _ _ _ _) _ _ _ _)) ; first | ((with_reducible apply go_cmp); rfl; rfl; rfl; rfl) | ((with_reducible apply go_add); rfl; rfl; rfl; omega) | ((with_reducible apply go_bin); rfl; rfl))
             | ((with_reducible (show evOp _ (.call _) _ _ _ _)) ; first | ((with_reducible apply go_len); rfl; rfl) | ((with_reducible apply go_fn_bool); rfl; (exact c1); rfl) | ((with_reducible apply go_fn_bool); (exact purL_agf (cs := encG5 m) rfl (by simp; try assumption) rfl rfl rfl); (exact c2); rfl))
             | (((with_reducible apply go_pick); rfl; rfl; rfl)))
           | ((with_reducible (show evOps _ _ _ _ _ _)); first
             | (with_reducible apply go_nil)
             | ((with_reducible apply go_run); rfl; rfl)
             | ((with_reducible apply go_pre); rfl)
             | (with_reducible apply go_pre_nil)
             | ((with_reducible apply go_suf); rfl)
             | (with_reducible apply go_suf_nil))
           | ((with_reducible (show ev _ _ _ _)); first
             | (with_reducible apply go_seq)
             | (with_reducible apply go_region)
             | (((with_reducible apply go_cond); rfl) <;> (intro h; simp only [h]; try simp only [decide_eq_true_eq, decide_eq_false_iff_not, Bool.not_eq_true', Bool.not_eq_false', Bool.not_true, Bool.not_false] at h; try exact absurd trivial h))
             | ((with_reducible apply go_order); kernel_rfl; rfl)
             | (with_reducible apply go_ret)
             | (with_reducible apply go_skipc)
             | (with_reducible apply go_block)
             | (with_reducible apply go_exit))
           | (with_reducible apply go_kseq)
           | (with_reducible apply go_ksuf)
           | (with_reducible apply go_kseq_ret)
           | (with_reducible apply go_kblock)
           | (with_reducible apply go_kblock_ret)
           | (with_reducible apply go_kblock_exit)
           | (with_reducible apply go_kseq_exit)
           | ((with_reducible apply end_bool); rfl)
      all_goals first
        | exact absurd hlt (by omega)
        | (exfalso; omega)
        | exact ⟨‹i < m.levels.length›, trivial, entails_eq (nx := 32) (k := 1) (ns := []) (ks := [15, 7, 3, 4, 5]) [(0, 0), (1, 1), (2, 2), (3, 3), (4, 4)] rfl (by simp) (by kernel_rfl)⟩
        | trace_state
  · have e : i = m.levels.length := by omega
    subst e
    by_cases hP : griddedE g [o] = 0 ∧ steepsR g o = [] ∧ alikeE m o = true
    · obtain ⟨p1, p2, p3⟩ := hP
      obtain ⟨p4, p5⟩ := gridded1 p1
      have ho := okGrid p5
      have hoe : o = gridL m o.levels := by
        have p3 : decide (m.x = o.x ∧ m.y = o.y ∧ m.side = o.side ∧ m.cols = o.cols ∧ m.rows = o.rows) = true := p3
        have p3 := of_decide_eq_true p3
        obtain ⟨x, y, sd, c, r, l⟩ := o
        simp only at p3
        obtain ⟨q1, q2, q3, q4, q5⟩ := p3
        simp only [gridL, q1, q2, q3, q4, q5]
      have hol : o.levels.length = m.levels.length := by
        have a := ho.len
        have b := hm.len
        have c : o.cols * o.rows = m.cols * m.rows := by rw [hoe]; rfl
        omega
      have hst : Stable (netE g m) o.levels := by
        have e : steepL g o o.levels.length = [] := by rw [← p2]; unfold steepsR; rw [if_pos p1]
        have := (steepL_nil g o).1 e
        rw [hoe] at this
        exact this
      rw [p2, p1] at h39o
      rw [p3] at h40o
      repeat' first
           | (with_reducible apply go_op)
           | (with_reducible apply go_next)
           | ((with_reducible (show evOp _ _ _ _ _ _)); first
             | ((with_reducible (show evOp _ (.move _) _ _ _ _)) ; first | ((with_reducible apply go_mv_int); rfl; rfl) | ((with_reducible apply go_mv_bool); rfl; rfl) | ((with_reducible apply go_mv_os); rfl; rfl) | ((with_reducible apply go_mv_tup); rfl; rfl))
             | ((with_reducible apply go_as))
             | ((with_reducible (show evOp _ (.load _ _) _ _ _ _)) ; first | ((with_reducible apply go_ld_agg); rfl; rfl; rfl; rfl) | ((with_reducible apply go_load_own); rfl; rfl; rfl; rfl))
             | (((with_reducible apply go_fieldAddr_own); rfl; rfl; rfl))
             | (((with_reducible apply go_cmp); rfl; rfl; rfl; rfl))
             | ((with_reducible (show evOp _ (.call _) _ _ _ _)) ; first | ((with_reducible apply go_len); rfl; rfl) | ((with_reducible apply go_len_own); rfl; rfl; rfl) | ((with_reducible apply go_fn_fr2); rfl; (exact h39o); (exact scalSteep); rfl; rfl) | ((with_reducible apply go_fn_bool); rfl; (exact h40o); rfl))
             | (((with_reducible apply go_not); rfl; rfl))
             | (((with_reducible apply go_extract); rfl; rfl))
             | (((with_reducible apply go_pick); rfl; rfl; rfl)))
           | ((with_reducible (show evOps _ _ _ _ _ _)); first
             | (with_reducible apply go_nil)
             | ((with_reducible apply go_run); rfl; rfl)
             | ((with_reducible apply go_pre); rfl))
           | ((with_reducible (show ev _ _ _ _)); first
             | (with_reducible apply go_seq)
             | (with_reducible apply go_region)
             | ((with_reducible apply go_cond_f); rfl; rfl)
             | (((with_reducible apply go_cond); rfl) <;> (intro h; simp only [h]; try simp only [decide_eq_true_eq, decide_eq_false_iff_not, Bool.not_eq_true', Bool.not_eq_false', Bool.not_true, Bool.not_false] at h; try exact absurd trivial h))
             | ((with_reducible apply go_order); kernel_rfl; rfl)
             | (with_reducible apply go_skipc)
             | (with_reducible apply go_block)
             | (with_reducible apply go_exit))
           | (with_reducible apply go_kseq)
           | (with_reducible apply go_kblock_exit)
           | (with_reducible apply go_kseq_exit)
      all_goals try exact absurd ‹(m.levels.length : Int) < m.levels.length› (by omega)
      all_goals try exact absurd rfl ‹_›
      clear h39o h40o h19
      refine go_count m.levels.length (fun i => ⟨[(17, .int .i64 i), (7, .op 3 0 0), (4, .op 1 0 0), (5, .op 2 0 0)], [(1, ⟨6, true, [encGrid m]⟩), (2, ⟨6, true, [encGrid o]⟩), (3, ⟨6, false, [encG5 m ++ [.os 4 0 S.length]]⟩), (4, ⟨1, true, S.map encInt⟩)], 32, 195⟩) (fun i => ∀ j, j < i → (lv o.levels j = 30000 ↔ lv m.levels j = 30000) ∧ (lv m.levels j ≠ 30000 → lv o.levels j ≤ lv m.levels j))
        (entails_eq (nx := 32) (k := 1) (ns := []) (ks := [17, 7, 4, 5]) [(1, 1), (2, 2), (3, 3), (4, 4)] rfl (by simp) (by kernel_rfl)) (fun j hj => absurd hj (by omega)) ?_
      intro i hi2 hC
      by_cases hlt2 : i < m.levels.length
      · have em := lv_get hlt2
        have eo := lv_get (show i < o.levels.length by omega)
        have c1 : Contract Try.prog 41 [.agg (encGrid m), .int .i64 i] (.ret (.bool (!decide (lv m.levels i = 30000)))) := c41L m (i : Int) (by omega) (by omega)
        have c2 : Contract Try.prog 41 [.agg (encGrid o), .int .i64 i] (.ret (.bool (!decide (lv o.levels i = 30000)))) := c41L o (i : Int) (by omega) (by omega)
        have hnx : ∀ (h : (lv o.levels i = 30000 ↔ lv m.levels i = 30000) ∧ (lv m.levels i ≠ 30000 → lv o.levels i ≤ lv m.levels i)), ∀ j, j < i + 1 → (lv o.levels j = 30000 ↔ lv m.levels j = 30000) ∧ (lv m.levels j ≠ 30000 → lv o.levels j ≤ lv m.levels j) := fun h j hj => by
          by_cases e : j = i
          · subst e; exact h
          · exact hC j (by omega)
        by_cases hk : lv m.levels i = 30000 <;> by_cases hko : lv o.levels i = 30000
        all_goals first | rw [decide_eq_true hk] at c1 | rw [decide_eq_false hk] at c1
        all_goals first | rw [decide_eq_true hko] at c2 | rw [decide_eq_false hko] at c2
        all_goals
          repeat' first
           | (with_reducible apply go_op)
           | (with_reducible apply go_next)
           | ((with_reducible (show evOp _ _ _ _ _ _)); first
             | ((with_reducible (show evOp _ (.move _) _ _ _ _)) ; first | ((with_reducible apply go_mv_int); rfl; rfl) | ((with_reducible apply go_mv_bool); rfl; rfl))
             | ((with_reducible apply go_as))
             | ((with_reducible (show evOp _ (.load _ _) _ _ _ _)) ; first | ((with_reducible apply go_ld_agg); rfl; rfl; rfl; rfl) | ((with_reducible apply go_load); rfl; rfl; rfl) | ((with_reducible apply go_load_own); rfl; rfl; rfl; rfl))
             | (((with_reducible apply go_fieldAddr_own); rfl; rfl; rfl))
             | (((with_reducible apply go_index_nat); rfl; rfl; (with_reducible rfl); (intro; rfl); rfl; omega; (intro hlt)))
             | ((with_reducible (show evOp _ (.binOp _ _ _ _ _) _ _ _ _)) ; first | ((with_reducible apply go_cmp); rfl; rfl; rfl; rfl) | ((with_reducible apply go_add); rfl; rfl; rfl; omega) | ((with_reducible apply go_bin); rfl; rfl))
             | ((with_reducible (show evOp _ (.call _) _ _ _ _)) ; first | ((with_reducible apply go_len); rfl; rfl) | ((with_reducible apply go_fn_bool); rfl; (exact c1); rfl) | ((with_reducible apply go_fn_bool); rfl; (exact c2); rfl))
             | (((with_reducible apply go_pick); rfl; rfl; rfl)))
           | ((with_reducible (show evOps _ _ _ _ _ _)); first
             | (with_reducible apply go_nil)
             | ((with_reducible apply go_run); rfl; rfl)
             | ((with_reducible apply go_pass); rfl; rfl; rfl)
             | ((with_reducible apply go_pre); rfl)
             | (with_reducible apply go_pre_nil)
             | ((with_reducible apply go_suf); rfl)
             | (with_reducible apply go_suf_nil))
           | ((with_reducible (show ev _ _ _ _)); first
             | (with_reducible apply go_seq)
             | (with_reducible apply go_region)
             | ((with_reducible apply go_cond_t); rfl; rfl)
             | (((with_reducible apply go_cond); rfl) <;> (intro h; simp only [h]; try simp only [decide_eq_true_eq, decide_eq_false_iff_not, Bool.not_eq_true', Bool.not_eq_false', Bool.not_true, Bool.not_false] at h; try exact absurd trivial h))
             | ((with_reducible apply go_order); kernel_rfl; rfl)
             | (with_reducible apply go_ret)
             | (with_reducible apply go_skipc)
             | (with_reducible apply go_block)
             | (with_reducible apply go_exit))
           | (with_reducible apply go_kseq)
           | (with_reducible apply go_ksuf)
           | (with_reducible apply go_kseq_ret)
           | (with_reducible apply go_kblock)
           | (with_reducible apply go_kblock_ret)
           | (with_reducible apply go_kblock_exit)
           | (with_reducible apply go_kseq_exit)
           | ((with_reducible apply end_bool); rfl)
           | (with_reducible rfl)
        all_goals first
          | exact absurd hlt2 (by omega)
          | exact ⟨‹i < m.levels.length›, hnx (by simp only [hk, hko]; omega), entails_eq (nx := 32) (k := 1) (ns := []) (ks := [17, 7, 4, 5]) [(1, 1), (2, 2), (3, 3), (4, 4)] rfl (by simp) (by kernel_rfl)⟩
          | exact ⟨‹i < m.levels.length›, hnx (by constructor <;> omega), entails_eq (nx := 32) (k := 1) (ns := []) (ks := [17, 7, 4, 5]) [(1, 1), (2, 2), (3, 3), (4, 4)] rfl (by simp) (by kernel_rfl)⟩
          | (exfalso; omega)
          | trace_state
      · have e : i = m.levels.length := by omega
        subst e
        have hB : Beyond (-1) m.levels o.levels := ⟨hol, fun j hj => ⟨(hC j hj).1, fun hk => by have := (hC j hj).2 hk; omega⟩⟩
        have hbest := hgS.best o.levels hB hst
        repeat' first
           | (with_reducible apply go_op)
           | (with_reducible apply go_next)
           | ((with_reducible (show evOp _ _ _ _ _ _)); first
             | (((with_reducible apply go_mv_int); rfl; rfl))
             | ((with_reducible apply go_as))
             | ((with_reducible (show evOp _ (.load _ _) _ _ _ _)) ; first | ((with_reducible apply go_ld_agg); rfl; rfl; rfl; rfl) | ((with_reducible apply go_load_own); rfl; rfl; rfl; rfl))
             | (((with_reducible apply go_fieldAddr_own); rfl; rfl; rfl))
             | (((with_reducible apply go_cmp); rfl; rfl; rfl; rfl))
             | (((with_reducible apply go_len); rfl; rfl)))
           | ((with_reducible (show evOps _ _ _ _ _ _)); first
             | (with_reducible apply go_nil)
             | ((with_reducible apply go_pre); rfl))
           | ((with_reducible (show ev _ _ _ _)); first
             | (with_reducible apply go_seq)
             | (with_reducible apply go_region)
             | (((with_reducible apply go_cond); rfl) <;> (intro h; simp only [h]; try simp only [decide_eq_true_eq, decide_eq_false_iff_not, Bool.not_eq_true', Bool.not_eq_false', Bool.not_true, Bool.not_false] at h; try exact absurd trivial h))
             | ((with_reducible apply go_order); kernel_rfl; rfl)
             | (with_reducible apply go_skipc)
             | (with_reducible apply go_block)
             | (with_reducible apply go_exit))
           | (with_reducible apply go_kseq)
           | (with_reducible apply go_kblock_exit)
           | (with_reducible apply go_kseq_exit)
        all_goals try exact absurd ‹(m.levels.length : Int) < m.levels.length› (by omega)
        refine go_count m.levels.length (fun i => ⟨[(18, .int .i64 i), (7, .op 3 0 0), (4, .op 1 0 0), (5, .op 2 0 0)], [(1, ⟨6, true, [encGrid m]⟩), (2, ⟨6, true, [encGrid o]⟩), (3, ⟨6, false, [encG5 m ++ [.os 4 0 S.length]]⟩), (4, ⟨1, true, S.map encInt⟩)], 32, 195⟩) (fun _ => True)
          (entails_eq (nx := 32) (k := 1) (ns := []) (ks := [18, 7, 4, 5]) [(1, 1), (2, 2), (3, 3), (4, 4)] rfl (by simp) (by kernel_rfl)) trivial ?_
        intro i hi3 _
        by_cases hlt3 : i < m.levels.length
        · have hle : lv o.levels i ≤ lv S i := by
            by_cases hk : lv m.levels i = 30000
            · rw [(hB.2 i hlt3).1.2 hk, (hgS.below.2 i hlt3).1.2 hk]; exact Int.le_refl _
            · have := hbest i hlt3 hk
              omega
          rw [lv_get (show i < o.levels.length by omega), lv_get (show i < S.length by omega)] at hle
          repeat' first
           | (with_reducible apply go_op)
           | (with_reducible apply go_next)
           | ((with_reducible (show evOp _ _ _ _ _ _)); first
             | ((with_reducible (show evOp _ (.move _) _ _ _ _)) ; first | ((with_reducible apply go_mv_int); rfl; rfl) | ((with_reducible apply go_mv_bool); rfl; rfl))
             | ((with_reducible apply go_as))
             | ((with_reducible (show evOp _ (.load _ _) _ _ _ _)) ; first | ((with_reducible apply go_load_om); rfl; rfl; rfl; rfl; rotate_left; assumption) | ((with_reducible apply go_load); rfl; rfl; rfl) | ((with_reducible apply go_load_own); rfl; rfl; rfl; rfl))
             | (((with_reducible apply go_fieldAddr_own); rfl; rfl; rfl))
             | ((with_reducible (show evOp _ (.indexAddr _ _ _) _ _ _ _)) ; first | ((with_reducible apply go_index_nat); rfl; rfl; (with_reducible rfl); (intro; rfl); rfl; omega; (intro hlt)) | ((with_reducible apply go_index_om); rfl; rfl; rfl; (with_reducible rfl); rfl; rfl; omega; (intro hlt)))
             | ((with_reducible (show evOp _ (.binOp _ _ _ _ _) _ _ _ _)) ; first | ((with_reducible apply go_cmp); rfl; rfl; rfl; rfl) | ((with_reducible apply go_add); rfl; rfl; rfl; omega))
             | (((with_reducible apply go_len); rfl; rfl)))
           | ((with_reducible (show evOps _ _ _ _ _ _)); first
             | (with_reducible apply go_nil)
             | ((with_reducible apply go_pre); rfl)
             | (with_reducible apply go_pre_nil)
             | ((with_reducible apply go_suf); rfl)
             | (with_reducible apply go_suf_nil))
           | ((with_reducible (show ev _ _ _ _)); first
             | (with_reducible apply go_seq)
             | (with_reducible apply go_region)
             | (((with_reducible apply go_cond); rfl) <;> (intro h; simp only [h]; try simp only [decide_eq_true_eq, decide_eq_false_iff_not, Bool.not_eq_true', Bool.not_eq_false', Bool.not_true, Bool.not_false] at h; try exact absurd trivial h))
             | ((with_reducible apply go_order); kernel_rfl; rfl)
             | (with_reducible apply go_ret)
             | (with_reducible apply go_skipc)
             | (with_reducible apply go_block)
             | (with_reducible apply go_exit))
           | (with_reducible apply go_kseq)
           | (with_reducible apply go_ksuf)
           | (with_reducible apply go_kseq_ret)
           | (with_reducible apply go_kblock)
           | (with_reducible apply go_kblock_ret)
           | (with_reducible apply go_kblock_exit)
           | (with_reducible apply go_kseq_exit)
           | ((with_reducible apply end_bool); rfl)
           | (with_reducible rfl)
          all_goals first
            | exact absurd hlt3 (by omega)
            | (exfalso; omega)
            | exact ⟨‹i < m.levels.length›, trivial, entails_eq (nx := 32) (k := 1) (ns := []) (ks := [18, 7, 4, 5]) [(1, 1), (2, 2), (3, 3), (4, 4)] rfl (by simp) (by kernel_rfl)⟩
            | trace_state
        · repeat' first
           | (with_reducible apply go_op)
           | (with_reducible apply go_next)
           | ((with_reducible (show evOp _ _ _ _ _ _)); first
             | ((with_reducible (show evOp _ (.move _) _ _ _ _)) ; first | ((with_reducible apply go_mv_int); rfl; rfl) | ((with_reducible apply go_mv_bool); rfl; rfl))
             | ((with_reducible apply go_as))
             | ((with_reducible (show evOp _ (.load _ _) _ _ _ _)) ; first | ((with_reducible apply go_load_om); rfl; rfl; rfl; rfl; rotate_left; assumption) | ((with_reducible apply go_load); rfl; rfl; rfl) | ((with_reducible apply go_load_own); rfl; rfl; rfl; rfl))
             | (((with_reducible apply go_fieldAddr_own); rfl; rfl; rfl))
             | ((with_reducible (show evOp _ (.indexAddr _ _ _) _ _ _ _)) ; first | ((with_reducible apply go_index_nat); rfl; rfl; (with_reducible rfl); (intro; rfl); rfl; omega; (intro hlt)) | ((with_reducible apply go_index_om); rfl; rfl; rfl; (with_reducible rfl); rfl; rfl; omega; (intro hlt)))
             | ((with_reducible (show evOp _ (.binOp _ _ _ _ _) _ _ _ _)) ; first | ((with_reducible apply go_cmp); rfl; rfl; rfl; rfl) | ((with_reducible apply go_add); rfl; rfl; rfl; omega))
             | (((with_reducible apply go_len); rfl; rfl)))
           | ((with_reducible (show evOps _ _ _ _ _ _)); first
             | (with_reducible apply go_nil)
             | ((with_reducible apply go_pre); rfl)
             | (with_reducible apply go_pre_nil)
             | ((with_reducible apply go_suf); rfl)
             | (with_reducible apply go_suf_nil))
           | ((with_reducible (show ev _ _ _ _)); first
             | (with_reducible apply go_seq)
             | (with_reducible apply go_region)
             | (((with_reducible apply go_cond); rfl) <;> (intro h; simp only [h]; try simp only [decide_eq_true_eq, decide_eq_false_iff_not, Bool.not_eq_true', Bool.not_eq_false', Bool.not_true, Bool.not_false] at h; try exact absurd trivial h))
             | ((with_reducible apply go_order); kernel_rfl; rfl)
             | (with_reducible apply go_ret)
             | (with_reducible apply go_skipc)
             | (with_reducible apply go_block)
             | (with_reducible apply go_exit))
           | (with_reducible apply go_kseq)
           | (with_reducible apply go_ksuf)
           | (with_reducible apply go_kseq_ret)
           | (with_reducible apply go_kblock)
           | (with_reducible apply go_kblock_ret)
           | (with_reducible apply go_kblock_exit)
           | (with_reducible apply go_kseq_exit)
           | ((with_reducible apply end_bool); rfl)
           | (with_reducible rfl)
          all_goals first
            | exact absurd hlt3 (by omega)
            | rfl
            | trace_state
    · generalize steepsR g o = L at *
      generalize griddedE g [o] = go at *
      generalize alikeE m o = al at *
      repeat' first
           | (with_reducible apply go_op)
           | (with_reducible apply go_next)
           | ((with_reducible (show evOp _ _ _ _ _ _)); first
             | ((with_reducible (show evOp _ (.move _) _ _ _ _)) ; first | ((with_reducible apply go_mv_int); rfl; rfl) | ((with_reducible apply go_mv_bool); rfl; rfl) | ((with_reducible apply go_mv_os); rfl; rfl) | ((with_reducible apply go_mv_tup); rfl; rfl))
             | ((with_reducible apply go_as))
             | ((with_reducible (show evOp _ (.load _ _) _ _ _ _)) ; first | ((with_reducible apply go_ld_agg); rfl; rfl; rfl; rfl) | ((with_reducible apply go_load_own); rfl; rfl; rfl; rfl))
             | (((with_reducible apply go_fieldAddr_own); rfl; rfl; rfl))
             | (((with_reducible apply go_cmp); rfl; rfl; rfl; rfl))
             | ((with_reducible (show evOp _ (.call _) _ _ _ _)) ; first | ((with_reducible apply go_len); rfl; rfl) | ((with_reducible apply go_len_own); rfl; rfl; rfl) | ((with_reducible apply go_fn_fr2); rfl; (exact h39o); (exact scalSteep); rfl; rfl) | ((with_reducible apply go_fn_bool); rfl; (exact h40o); rfl))
             | (((with_reducible apply go_not); rfl; rfl))
             | (((with_reducible apply go_extract); rfl; rfl))
             | (((with_reducible apply go_pick); rfl; rfl; rfl)))
           | ((with_reducible (show evOps _ _ _ _ _ _)); first
             | (with_reducible apply go_nil)
             | ((with_reducible apply go_run); rfl; rfl)
             | ((with_reducible apply go_pass); rfl; rfl; rfl)
             | (((with_reducible apply go_guard); rfl) <;> (intro h; simp only [h, Bool.not_true, Bool.not_false]; (try with_reducible (refine ⟨rfl, ?_⟩)); try simp only [decide_eq_true_eq, decide_eq_false_iff_not, Bool.not_eq_true', Bool.not_eq_false', Bool.not_true, Bool.not_false] at h; try exact absurd trivial h))
             | ((with_reducible apply go_pre); rfl))
           | ((with_reducible (show ev _ _ _ _)); first
             | (with_reducible apply go_seq)
             | (with_reducible apply go_region)
             | ((with_reducible apply go_cond_t); rfl; rfl)
             | (((with_reducible apply go_cond); rfl) <;> (intro h; simp only [h]; try simp only [decide_eq_true_eq, decide_eq_false_iff_not, Bool.not_eq_true', Bool.not_eq_false', Bool.not_true, Bool.not_false] at h; try exact absurd trivial h))
             | ((with_reducible apply go_order); kernel_rfl; rfl)
             | (with_reducible apply go_ret)
             | (with_reducible apply go_skipc)
             | (with_reducible apply go_block)
             | (with_reducible apply go_exit))
           | (with_reducible apply go_kseq)
           | (with_reducible apply go_kseq_ret)
           | (with_reducible apply go_kblock_exit)
           | (with_reducible apply go_kseq_exit)
           | ((with_reducible apply end_bool); rfl)
           | (with_reducible rfl)
      all_goals first
        | exact absurd ‹(m.levels.length : Int) < m.levels.length› (by omega)
        | exact absurd ⟨‹go = 0›, List.length_eq_zero_iff.1 (by omega), ‹al = true›⟩ hP
        | trace_state

theorem c8 (g : Ground) (m o : Grid) (hl : m.levels.length ≤ 9223372036854775807) (hlo : o.levels.length ≤ 9223372036854775807) : Contract Try.prog 8 [.agg (encGround g), .agg (encGrid m), .agg (encGrid o)] (.ret (.bool true)) := by
  cases hs : slightE g
  · exact slight8 g m o hs
  · by_cases hm : 200 < m.levels.length ∨ 200 < o.levels.length
    · exact much8 g m o hl hlo hs hm
    · by_cases hge : griddedE g [m] = 0
      · exact good8 g m o (by omega) (by omega) hs hge
      · exact bad8 g m o (by omega) (by omega) hs hge
end Go.Pv.Soil

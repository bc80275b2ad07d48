import Derived.Test.YtdedpndkohfgbaaProg
import Derived.Test.YtdedpndkohfgbaaSU
import Derived.KernelRfl
/- Part of the proofs over Ytdedpndkohfgbaa: S50. -/
set_option linter.unusedVariables false
set_option linter.unusedSimpArgs false
set_option linter.unnecessarySimpa false
open Go Go.Proofs Go.Pv
set_option maxHeartbeats 8000000
set_option maxRecDepth 100000
set_option linter.unusedSimpArgs false
set_option linter.unusedVariables false
namespace Go.Pv.Soil

theorem gridded2_eq (g : Ground) (m a : Grid) : firstOf [groundE g, gridE m, gridE a, if alikeE m a = true then 0 else 10] = griddedE g [m, a] := by
  unfold griddedE
  simp only [List.map_cons, List.map_nil, firstOf]
  (repeat' split) <;> first | rfl | omega

theorem slight12 (g : Ground) (m o : Grid) (hs : slightE g = false) : Contract Try.prog 12 [.agg (encGround g), .agg (encGrid m), .agg (encGrid o)] (.ret (.bool true)) := by
  have h19 := c19 g
  rw [hs] at h19
  refine contract_of mix Try.func12 rfl rfl (by rw [Try.ntmps12]; exact Nat.le_of_ble_eq_true rfl) ?_; rw [Try.results12, Try.ntmps12]; simp only [argsE, Nat.reduceAdd]
  repeat' first
           | (with_reducible apply go_op)
           | (with_reducible apply go_next)
           | ((with_reducible (show evOp _ _ _ _ _ _)); first
             | (((with_reducible apply go_mv_bool); rfl; rfl))
             | ((with_reducible apply go_as))
             | (((with_reducible apply go_ld_agg); rfl; rfl; rfl; rfl))
             | ((with_reducible (show evOp _ (.call _) _ _ _ _)) ; first | ((with_reducible apply go_fn_bool); rfl; (exact c18); rfl) | ((with_reducible apply go_fn_bool); rfl; (exact h19); rfl))
             | (((with_reducible apply go_not); rfl; rfl))
             | (((with_reducible apply go_pick); rfl; rfl; rfl))
             | (((with_reducible apply go_bx_agg); rfl; rfl; (exact Nat.le_of_ble_eq_true rfl); rfl; rfl)))
           | ((with_reducible (show evOps _ _ _ _ _ _)); first
             | (with_reducible apply go_nil)
             | ((with_reducible apply go_pass); rfl; rfl; rfl))
           | ((with_reducible (show ev _ _ _ _)); first
             | (with_reducible apply go_seq)
             | (with_reducible apply go_region)
             | ((with_reducible apply go_cond_t); rfl; rfl)
             | ((with_reducible apply go_cond_f); rfl; rfl)
             | (with_reducible apply go_ret)
             | (with_reducible apply go_skipc))
           | (with_reducible apply go_kseq)
           | (with_reducible apply go_kseq_ret)
           | ((with_reducible apply end_bool); rfl)
           | (with_reducible rfl)
theorem much12 (g : Ground) (m o : Grid) (hs : slightE g = true) (hm : 30 < m.levels.length ∨ 30 < o.levels.length) : Contract Try.prog 12 [.agg (encGround g), .agg (encGrid m), .agg (encGrid o)] (.ret (.bool true)) := by
  have h19 := c19 g
  rw [hs] at h19
  have h1 := c24 m
  have h2 := c24 o
  refine contract_of mix Try.func12 rfl rfl (by rw [Try.ntmps12]; exact Nat.le_of_ble_eq_true rfl) ?_; rw [Try.results12, Try.ntmps12]; simp only [argsE, Nat.reduceAdd]
  repeat' first
           | (with_reducible apply go_op)
           | (with_reducible apply go_next)
           | ((with_reducible (show evOp _ _ _ _ _ _)); first
             | (((with_reducible apply go_mv_bool); rfl; rfl))
             | ((with_reducible apply go_as))
             | (((with_reducible apply go_ld_agg); rfl; rfl; rfl; rfl))
             | ((with_reducible (show evOp _ (.call _) _ _ _ _)) ; first | ((with_reducible apply go_fn_bool); rfl; (exact c18); rfl) | ((with_reducible apply go_fn_bool); rfl; (exact h19); rfl) | ((with_reducible apply go_fn_bool); rfl; (exact h1); rfl) | ((with_reducible apply go_fn_bool); rfl; (exact h2); rfl))
             | (((with_reducible apply go_not); rfl; rfl))
             | (((with_reducible apply go_pick); rfl; rfl; rfl))
             | (((with_reducible apply go_bx_agg); rfl; rfl; (exact Nat.le_of_ble_eq_true rfl); rfl; rfl)))
           | ((with_reducible (show evOps _ _ _ _ _ _)); first
             | (with_reducible apply go_nil)
             | ((with_reducible apply go_run); rfl; rfl)
             | ((with_reducible apply go_pass); rfl; rfl; rfl)
             | (((with_reducible apply go_guard); rfl) <;> (intro h; simp only [h, Bool.not_true, Bool.not_false]; (try with_reducible (refine ⟨rfl, ?_⟩)); try simp only [decide_eq_true_eq, decide_eq_false_iff_not, Bool.not_eq_true', Bool.not_eq_false', Bool.not_true, Bool.not_false] at h; try exact absurd trivial h)))
           | ((with_reducible (show ev _ _ _ _)); first
             | (with_reducible apply go_seq)
             | (with_reducible apply go_region)
             | ((with_reducible apply go_cond_t); rfl; rfl)
             | ((with_reducible apply go_cond_f); rfl; rfl)
             | (((with_reducible apply go_cond); rfl) <;> (intro h; simp only [h]; try simp only [decide_eq_true_eq, decide_eq_false_iff_not, Bool.not_eq_true', Bool.not_eq_false', Bool.not_true, Bool.not_false] at h; try exact absurd trivial h))
             | (with_reducible apply go_ret)
             | (with_reducible apply go_skipc))
           | (with_reducible apply go_kseq)
           | (with_reducible apply go_kseq_ret)
           | ((with_reducible apply end_bool); rfl)
           | (with_reducible rfl)
  all_goals (exfalso; omega)

theorem bad12 (g : Ground) (m a : Grid) (hl : m.levels.length ≤ 30) (hlo : a.levels.length ≤ 30) (hs : slightE g = true) (hge : griddedE g [m, a] ≠ 0) : Contract Try.prog 12 [.agg (encGround g), .agg (encGrid m), .agg (encGrid a)] (.ret (.bool true)) := by
  have h19 := c19 g
  rw [hs] at h19
  have hl2 := slight_len hs
  have hsl : g.soils.length < 1000000000000 := by omega
  have hbl : g.borings.length < 1000000000000 := by omega
  have h24 : Contract Try.prog 24 [.agg (encGrid m)] (.ret (.bool true)) := by
    have := c24 m
    rwa [decide_eq_true hl] at this
  have h24a : Contract Try.prog 24 [.agg (encGrid a)] (.ret (.bool true)) := by
    have := c24 a
    rwa [decide_eq_true hlo] at this
  have h56 := c56 g hsl hbl m a (by omega) (by omega)
  have e : acceptE g m a = griddedE g [m, a] := by unfold acceptE; rw [if_pos hge]
  rw [e] at h56
  have h23 := c23 g hsl hbl
  have h28 := c28 m (by omega)
  have h28a := c28 a (by omega)
  have h53 := c53 m a
  have h27 : Contract Try.prog 27 [.sl [[.int .i64 (groundE g)], [.int .i64 (gridE m)], [.int .i64 (gridE a)], [.int .i64 (if alikeE m a = true then 0 else 10)]]] (.ret (.int .i64 (griddedE g [m, a]))) := gridded2_eq g m a ▸ c27 [groundE g, gridE m, gridE a, if alikeE m a = true then 0 else 10] (by simp)
  generalize (if alikeE m a = true then (0 : Int) else 10) = g4 at *
  generalize griddedE g [m, a] = ge at *
  generalize groundE g = g1 at *
  generalize gridE m = g2 at *
  generalize gridE a = g3 at *
  refine contract_of mix Try.func12 rfl rfl (by rw [Try.ntmps12]; exact Nat.le_of_ble_eq_true rfl) ?_; rw [Try.results12, Try.ntmps12]; simp only [argsE, Nat.reduceAdd]
  repeat' first
           | (with_reducible apply go_op)
           | (with_reducible apply go_next)
           | ((with_reducible (show evOp _ _ _ _ _ _)); first
             | ((with_reducible (show evOp _ (.move _) _ _ _ _)) ; first | ((with_reducible apply go_mv_int); rfl; rfl) | ((with_reducible apply go_mv_bool); rfl; rfl))
             | ((with_reducible apply go_as))
             | (((with_reducible apply go_ld_agg); rfl; rfl; rfl; rfl))
             | (((with_reducible apply go_cmp); rfl; rfl; rfl; rfl))
             | ((with_reducible (show evOp _ (.call _) _ _ _ _)) ; first | ((with_reducible apply go_fn_bool); rfl; (exact c18); rfl) | ((with_reducible apply go_fn_bool); rfl; (exact h19); rfl) | ((with_reducible apply go_fn_bool); rfl; (exact h24); rfl) | ((with_reducible apply go_fn_bool); rfl; (exact h24a); rfl) | ((with_reducible apply go_fn_int); rfl; (exact h56); rfl) | ((with_reducible apply go_fn_int); rfl; (exact h23); rfl) | ((with_reducible apply go_fn_int); rfl; (exact h28); rfl) | ((with_reducible apply go_fn_int); rfl; (exact h28a); rfl) | ((with_reducible apply go_fn_int); rfl; (exact h53); rfl) | ((with_reducible apply go_fn_int); rfl; (exact h27); rfl))
             | (((with_reducible apply go_not); rfl; rfl))
             | (((with_reducible apply go_pick); rfl; rfl; rfl))
             | (((with_reducible apply go_bx_agg); rfl; rfl; (exact Nat.le_of_ble_eq_true rfl); rfl; rfl))
             | (((with_reducible apply go_bs4_int); rfl; rfl; rfl; rfl; rfl; rfl)))
           | ((with_reducible (show evOps _ _ _ _ _ _)); first
             | (with_reducible apply go_nil)
             | ((with_reducible apply go_run); rfl; rfl)
             | ((with_reducible apply go_pre); rfl)
             | (with_reducible apply go_pre_nil)
             | ((with_reducible apply go_suf); rfl)
             | (with_reducible apply go_suf_nil))
           | ((with_reducible (show ev _ _ _ _)); first
             | (with_reducible apply go_seq)
             | (with_reducible apply go_region)
             | ((with_reducible apply go_cond_f); rfl; rfl)
             | (((with_reducible apply go_cond); rfl) <;> (intro h; simp only [h]; try simp only [decide_eq_true_eq, decide_eq_false_iff_not, Bool.not_eq_true', Bool.not_eq_false', Bool.not_true, Bool.not_false] at h; try exact absurd trivial h))
             | ((with_reducible apply go_order); kernel_rfl; rfl)
             | (with_reducible apply go_ret)
             | (with_reducible apply go_skipc))
           | (with_reducible apply go_kseq)
           | (with_reducible apply go_ksuf)
           | (with_reducible apply go_kseq_ret)
           | ((with_reducible apply end_bool); rfl)
  all_goals first | exact absurd ‹ge = 0› hge | simp

theorem good12 (g : Ground) (m a : Grid) (hl : m.levels.length ≤ 30) (hlo : a.levels.length ≤ 30) (hs : slightE g = true) (hge : griddedE g [m, a] = 0) : Contract Try.prog 12 [.agg (encGround g), .agg (encGrid m), .agg (encGrid a)] (.ret (.bool true)) := by
  have h19 := c19 g
  rw [hs] at h19
  have hl2 := slight_len hs
  have hsl : g.soils.length < 1000000000000 := by omega
  have hbl : g.borings.length < 1000000000000 := by omega
  have h24 : Contract Try.prog 24 [.agg (encGrid m)] (.ret (.bool true)) := by
    have := c24 m
    rwa [decide_eq_true hl] at this
  have h24a : Contract Try.prog 24 [.agg (encGrid a)] (.ret (.bool true)) := by
    have := c24 a
    rwa [decide_eq_true hlo] at this
  have h56 := c56 g hsl hbl m a (by omega) (by omega)
  have e : acceptE g m a = if a.levels = slumpE g m (-1) then 0 else 21 := by unfold acceptE; rw [if_neg (fun h => h hge)]
  rw [e] at h56
  have h23 := c23 g hsl hbl
  have h28 := c28 m (by omega)
  have h28a := c28 a (by omega)
  have h53 := c53 m a
  have h27 : Contract Try.prog 27 [.sl [[.int .i64 (groundE g)], [.int .i64 (gridE m)], [.int .i64 (gridE a)], [.int .i64 (if alikeE m a = true then 0 else 10)]]] (.ret (.int .i64 (griddedE g [m, a]))) := gridded2_eq g m a ▸ c27 [groundE g, gridE m, gridE a, if alikeE m a = true then 0 else 10] (by simp)
  obtain ⟨h1, h2, h3, h4⟩ := gridded2 hge
  rw [hge] at h27
  have hg := okG h1
  have hm := okGrid h2
  have ha := okGrid h3
  have hae := alike_gridL h4
  have hla := alike_len hm ha h4
  have hgm : griddedE g [m] = 0 := by
    unfold griddedE
    rw [if_neg (fun h => h h1)]
    simp [firstOf, h2]
  have h25 := c25 g hsl hbl m (by omega)
  rw [slumpR_ok hgm] at h25
  have hS := (slumpE_gs hg hm (.inl rfl)).below.1
  have h57 := c57 g hg hsl m hm a ha hae hla
  have h32 : Contract Try.prog 32 [.agg (encG5 m ++ [.sl ((slumpE g m (-1)).map encInt)]), .agg (encGrid a)] (.ret (.bool (decide (slumpE g m (-1) = a.levels)))) := by
    have := c32 (gridL m (slumpE g m (-1))) a (by show (slumpE g m (-1)).length < 1000000000000; omega)
    have e : sameE (gridL m (slumpE g m (-1))) a = decide (slumpE g m (-1) = a.levels) := by
      unfold sameE
      rw [show alikeE (gridL m (slumpE g m (-1))) a = true from h4]
      rfl
    rwa [e] at this
  have h25 : Contract Try.prog 25 [.agg (encGround g), .agg (encGrid m)] (.ret (.tup [.agg (encG5 m ++ [.fr 1 ((slumpE g m (-1)).map encInt)]), .int .i64 (fallE g m (-1)), .int .i64 0])) := h25
  generalize (if alikeE m a = true then (0 : Int) else 10) = g4 at *
  generalize slumpE g m (-1) = S at *
  generalize fallE g m (-1) = v at *
  generalize groundE g = g1 at *
  generalize gridE m = g2 at *
  generalize gridE a = g3 at *
  by_cases hA : a.levels = S
  · rw [if_pos hA] at h56
    rw [decide_eq_true hA] at h57
    rw [decide_eq_true hA.symm] at h32
    refine contract_of mix Try.func12 rfl rfl (by rw [Try.ntmps12]; exact Nat.le_of_ble_eq_true rfl) ?_; rw [Try.results12, Try.ntmps12]; simp only [argsE, Nat.reduceAdd]
    repeat' first
           | (with_reducible apply go_op)
           | (with_reducible apply go_next)
           | ((with_reducible (show evOp _ _ _ _ _ _)); first
             | ((with_reducible (show evOp _ (.move _) _ _ _ _)) ; first | ((with_reducible apply go_mv_int); rfl; rfl) | ((with_reducible apply go_mv_bool); rfl; rfl) | ((with_reducible apply go_mv_tup); rfl; rfl))
             | ((with_reducible apply go_as))
             | (((with_reducible apply go_ld_agg); rfl; rfl; rfl; rfl))
             | ((with_reducible (show evOp _ (.binOp _ _ _ _ _) _ _ _ _)) ; first | ((with_reducible apply go_cmp); rfl; rfl; rfl; rfl) | ((with_reducible apply go_bin); rfl; rfl))
             | ((with_reducible (show evOp _ (.call _) _ _ _ _)) ; first | ((with_reducible apply go_fn_bool); rfl; (exact c18); rfl) | ((with_reducible apply go_fn_bool); rfl; (exact h19); rfl) | ((with_reducible apply go_fn_bool); rfl; (exact h24); rfl) | ((with_reducible apply go_fn_bool); rfl; (exact h24a); rfl) | ((with_reducible apply go_fn_int); rfl; (exact h56); rfl) | ((with_reducible apply go_fn_int); rfl; (exact h23); rfl) | ((with_reducible apply go_fn_int); rfl; (exact h28); rfl) | ((with_reducible apply go_fn_int); rfl; (exact h28a); rfl) | ((with_reducible apply go_fn_int); rfl; (exact h53); rfl) | ((with_reducible apply go_fn_int); rfl; (exact h27); rfl) | ((with_reducible apply (go_fn_agf3 (cs := encG5 m))); rfl; (exact h25); (exact scalInt); rfl; rfl; rfl; rfl; rfl; rfl; rfl) | ((with_reducible apply go_fn_bool); (exact purL_agf (cs := encG5 m) rfl (by simp; try assumption) rfl rfl rfl); (exact h32); rfl) | ((with_reducible apply go_fn_bool); rfl; (exact h57); rfl))
             | (((with_reducible apply go_st_agg); rfl; rfl; rfl; rfl; rfl; rfl; rfl))
             | (((with_reducible apply go_not); rfl; rfl))
             | (((with_reducible apply go_extract); rfl; rfl))
             | (((with_reducible apply go_pick); rfl; rfl; rfl))
             | (((with_reducible apply go_bx_agg); rfl; rfl; (exact Nat.le_of_ble_eq_true rfl); rfl; rfl))
             | (((with_reducible apply go_alloc); rfl; rfl; rfl))
             | (((with_reducible apply go_bs4_int); rfl; rfl; rfl; rfl; rfl; rfl)))
           | ((with_reducible (show evOps _ _ _ _ _ _)); first
             | (with_reducible apply go_nil)
             | ((with_reducible apply go_run); rfl; rfl)
             | ((with_reducible apply go_pass); rfl; rfl; rfl)
             | ((with_reducible apply go_skip); rfl; rfl)
             | ((with_reducible apply go_pre); rfl)
             | (with_reducible apply go_pre_nil)
             | ((with_reducible apply go_suf); rfl)
             | (with_reducible apply go_suf_nil))
           | ((with_reducible (show ev _ _ _ _)); first
             | (with_reducible apply go_seq)
             | (with_reducible apply go_region)
             | ((with_reducible apply go_cond_f); rfl; rfl)
             | ((with_reducible apply go_order); kernel_rfl; rfl)
             | (with_reducible apply go_ret)
             | (with_reducible apply go_skipc))
           | (with_reducible apply go_kseq)
           | (with_reducible apply go_ksuf)
           | ((with_reducible apply end_bool); rfl)
           | (with_reducible rfl)
    all_goals first | exact absurd rfl ‹_› | rfl | trace_state
  · rw [if_neg hA] at h56
    rw [decide_eq_false hA] at h57
    rw [decide_eq_false (fun h => hA h.symm)] at h32
    refine contract_of mix Try.func12 rfl rfl (by rw [Try.ntmps12]; exact Nat.le_of_ble_eq_true rfl) ?_; rw [Try.results12, Try.ntmps12]; simp only [argsE, Nat.reduceAdd]
    repeat' first
           | (with_reducible apply go_op)
           | (with_reducible apply go_next)
           | ((with_reducible (show evOp _ _ _ _ _ _)); first
             | ((with_reducible (show evOp _ (.move _) _ _ _ _)) ; first | ((with_reducible apply go_mv_int); rfl; rfl) | ((with_reducible apply go_mv_bool); rfl; rfl) | ((with_reducible apply go_mv_tup); rfl; rfl))
             | ((with_reducible apply go_as))
             | (((with_reducible apply go_ld_agg); rfl; rfl; rfl; rfl))
             | ((with_reducible (show evOp _ (.binOp _ _ _ _ _) _ _ _ _)) ; first | ((with_reducible apply go_cmp); rfl; rfl; rfl; rfl) | ((with_reducible apply go_bin); rfl; rfl))
             | ((with_reducible (show evOp _ (.call _) _ _ _ _)) ; first | ((with_reducible apply go_fn_bool); rfl; (exact c18); rfl) | ((with_reducible apply go_fn_bool); rfl; (exact h19); rfl) | ((with_reducible apply go_fn_bool); rfl; (exact h24); rfl) | ((with_reducible apply go_fn_bool); rfl; (exact h24a); rfl) | ((with_reducible apply go_fn_int); rfl; (exact h56); rfl) | ((with_reducible apply go_fn_int); rfl; (exact h23); rfl) | ((with_reducible apply go_fn_int); rfl; (exact h28); rfl) | ((with_reducible apply go_fn_int); rfl; (exact h28a); rfl) | ((with_reducible apply go_fn_int); rfl; (exact h53); rfl) | ((with_reducible apply go_fn_int); rfl; (exact h27); rfl) | ((with_reducible apply (go_fn_agf3 (cs := encG5 m))); rfl; (exact h25); (exact scalInt); rfl; rfl; rfl; rfl; rfl; rfl; rfl) | ((with_reducible apply go_fn_bool); (exact purL_agf (cs := encG5 m) rfl (by simp; try assumption) rfl rfl rfl); (exact h32); rfl) | ((with_reducible apply go_fn_bool); rfl; (exact h57); rfl))
             | (((with_reducible apply go_st_agg); rfl; rfl; rfl; rfl; rfl; rfl; rfl))
             | (((with_reducible apply go_not); rfl; rfl))
             | (((with_reducible apply go_extract); rfl; rfl))
             | (((with_reducible apply go_pick); rfl; rfl; rfl))
             | (((with_reducible apply go_bx_agg); rfl; rfl; (exact Nat.le_of_ble_eq_true rfl); rfl; rfl))
             | (((with_reducible apply go_alloc); rfl; rfl; rfl))
             | (((with_reducible apply go_bs4_int); rfl; rfl; rfl; rfl; rfl; rfl)))
           | ((with_reducible (show evOps _ _ _ _ _ _)); first
             | (with_reducible apply go_nil)
             | ((with_reducible apply go_run); rfl; rfl)
             | ((with_reducible apply go_pass); rfl; rfl; rfl)
             | ((with_reducible apply go_pre); rfl)
             | (with_reducible apply go_pre_nil)
             | ((with_reducible apply go_suf); rfl)
             | (with_reducible apply go_suf_nil))
           | ((with_reducible (show ev _ _ _ _)); first
             | (with_reducible apply go_seq)
             | (with_reducible apply go_region)
             | ((with_reducible apply go_cond_f); rfl; rfl)
             | ((with_reducible apply go_order); kernel_rfl; rfl)
             | (with_reducible apply go_ret)
             | (with_reducible apply go_skipc))
           | (with_reducible apply go_kseq)
           | (with_reducible apply go_ksuf)
           | ((with_reducible apply end_bool); rfl)
    all_goals first | exact absurd rfl ‹_› | rfl | trace_state

theorem c12 (g : Ground) (m a : Grid) : Contract Try.prog 12 [.agg (encGround g), .agg (encGrid m), .agg (encGrid a)] (.ret (.bool true)) := by
  cases hs : slightE g
  · exact slight12 g m a hs
  · by_cases hm : 30 < m.levels.length ∨ 30 < a.levels.length
    · exact much12 g m a hs hm
    · by_cases hge : griddedE g [m, a] = 0
      · exact good12 g m a (by omega) (by omega) hs hge
      · exact bad12 g m a (by omega) (by omega) hs hge
end Go.Pv.Soil

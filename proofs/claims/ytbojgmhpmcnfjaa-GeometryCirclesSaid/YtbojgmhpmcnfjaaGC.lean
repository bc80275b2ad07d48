import Derived.Test.YtbojgmhpmcnfjaaProg
import Derived.Test.YtbojgmhpmcnfjaaGB
import Derived.Test.YtbojgmhpmcnfjaaGW
import Derived.KernelRfl
/- Part of the proofs over Ytbojgmhpmcnfjaa: H5. -/
set_option linter.unusedVariables false
set_option linter.unusedSimpArgs false
set_option linter.unnecessarySimpa false
open Go Go.Proofs Go.Pv
set_option maxHeartbeats 4000000
set_option maxRecDepth 100000
set_option linter.unusedSimpArgs false
set_option linter.unusedVariables false
namespace Go.Pv.Geo
def encT4 (a b c d : Pt) : List D := [.int .i64 a.x, .int .i64 a.y, .int .i64 b.x, .int .i64 b.y, .int .i64 c.x, .int .i64 c.y, .int .i64 d.x, .int .i64 d.y]
theorem sign_zero {n : Int} : signE (-n) = 0 ↔ signE n = 0 := by unfold signE; (repeat' split) <;> omega
theorem farL_swap (a b c d : Pt) : farL [b, a, c, d] = farL [a, b, c, d] := by
  rw [Bool.eq_iff_iff]
  simp [farL]
  grind
theorem inCirc_swap (a b c d : Pt) : inCircE b a c d = inCircE a b c d := by
  unfold inCircE
  rw [farL_swap, det_swap, cross_swap, sign_neg, sign_neg, show (ptOK b && ptOK a && ptOK c && ptOK d) = (ptOK a && ptOK b && ptOK c && ptOK d) by rw [Bool.and_comm (ptOK b)], Int.neg_mul_neg]
  simp only [Int.neg_eq_zero]
theorem c3 (a b c d : Pt) : Contract Try.prog 3 [.agg (encT4 a b c d)] (.ret (.bool true)) := by
  have hI := c_InCircle a b c d
  have hJ := c_InCircle b a c d
  rw [inCirc_swap] at hJ
  cases hok : ptOK a && ptOK b && ptOK c && ptOK d
  · have he : inCircE a b c d = (0, 2) := by simp [inCircE, hok]
    rw [he] at hI
    refine contract_of mix Try.func3 rfl rfl (by rw [Try.ntmps3]; exact Nat.le_of_ble_eq_true rfl) ?_; rw [Try.results3, Try.ntmps3]; simp only [argsE, Nat.reduceAdd]
    repeat' first
           | (with_reducible apply go_op)
           | (with_reducible apply go_next)
           | ((with_reducible (show evOp _ _ _ _ _ _)); first
             | ((with_reducible (show evOp _ (.move _) _ _ _ _)) ; first | ((with_reducible apply go_mv_int); rfl; rfl) | ((with_reducible apply go_mv_bool); rfl; rfl) | ((with_reducible apply go_mv_tup); rfl; rfl))
             | ((with_reducible apply go_as))
             | ((with_reducible (show evOp _ (.load _ _) _ _ _ _)) ; first | ((with_reducible apply go_ld_agg); rfl; rfl; rfl; rfl) | ((with_reducible apply go_load_own); rfl; rfl; rfl; rfl))
             | (((with_reducible apply go_index_arr); rfl; rfl; rfl; rfl; omega))
             | (((with_reducible apply go_cmp); rfl; rfl; rfl; rfl))
             | ((with_reducible (show evOp _ (.call _) _ _ _ _)) ; first | ((with_reducible apply go_fn_bool); rfl; (exact c_awake); rfl) | ((with_reducible apply go_fn_plain); rfl; (exact hI); rfl; (exact Nat.le_of_ble_eq_true rfl); rfl) | ((with_reducible apply go_fn_bool); rfl; (exact c_good a); rfl) | ((with_reducible apply go_fn_bool); rfl; (exact c_good b); rfl) | ((with_reducible apply go_fn_bool); rfl; (exact c_good c); rfl) | ((with_reducible apply go_fn_bool); rfl; (exact c_good d); rfl))
             | (((with_reducible apply go_st_agg); rfl; rfl; rfl; rfl; rfl; rfl; rfl))
             | (((with_reducible apply go_not); rfl; rfl))
             | (((with_reducible apply go_extract); rfl; rfl))
             | (((with_reducible apply go_pick); rfl; rfl; rfl))
             | (((with_reducible apply go_bx_agg); rfl; rfl; (exact Nat.le_of_ble_eq_true rfl); rfl; rfl))
             | (((with_reducible apply go_alloc); rfl; rfl; rfl))
             | (((with_reducible apply go_bs4_agg); rfl; rfl; rfl; rfl; rfl; rfl; rfl; rfl; rfl; rfl; rfl; rfl)))
           | ((with_reducible (show evOps _ _ _ _ _ _)); first
             | (with_reducible apply go_nil)
             | ((with_reducible apply go_run); rfl; rfl)
             | ((with_reducible apply go_pass); rfl; rfl; rfl)
             | (((with_reducible apply go_guard); rfl) <;> (intro h; simp only [h, Bool.not_true, Bool.not_false]; (try with_reducible (refine ⟨rfl, ?_⟩)); try simp only [decide_eq_true_eq, decide_eq_false_iff_not, Bool.not_eq_true', Bool.not_eq_false', Bool.not_true, Bool.not_false] at h; try exact absurd trivial h))
             | (with_reducible apply go_take)
             | (with_reducible apply go_take0))
           | ((with_reducible (show evG _ _ _ _ _)); first
             | (with_reducible apply go_seq)
             | (with_reducible apply go_region)
             | ((with_reducible apply go_cond_t); rfl; rfl)
             | ((with_reducible apply go_cond_f); rfl; rfl)
             | (((with_reducible apply go_cond); rfl) <;> (intro h; simp only [h]; try simp only [decide_eq_true_eq, decide_eq_false_iff_not, Bool.not_eq_true', Bool.not_eq_false', Bool.not_true, Bool.not_false] at h; try exact absurd trivial h))
             | ((with_reducible apply (go_drawL 12 [[2, 3, 4, 5, 6, 7], [4, 5, 6, 7], [6, 7], []])); decide +kernel; rfl)
             | (with_reducible apply go_ret)
             | (with_reducible apply go_skipc))
           | (with_reducible apply go_klined)
           | (with_reducible apply go_line_drop)
           | (with_reducible apply go_line_drop0)
           | (with_reducible apply go_line)
           | (with_reducible apply go_line_nil)
           | (with_reducible apply go_kln)
           | (with_reducible apply go_again_nil)
           | ((with_reducible apply go_again); rfl; (intro id'))
           | ((with_reducible apply go_kagain); rfl)
           | (with_reducible apply go_kseq)
           | (with_reducible apply go_kseq_ret)
           | ((with_reducible apply end_bool); rfl)
    all_goals first | rfl | (exfalso; simp_all; done) | trace_state
  · obtain ⟨ha, hb, hc, hd⟩ := ok4 hok
    have g1 := c_good a
    have g2 := c_good b
    have g3 := c_good c
    have g4 := c_good d
    have hcl := c_close_4 a b c d ha hb hc hd
    rw [ha] at g1
    rw [hb] at g2
    rw [hc] at g3
    rw [hd] at g4
    cases hf : farL [a, b, c, d]
    · obtain ⟨n1, n2, n3⟩ := near_of hf
      rw [hf] at hcl
      have ho := c_rorient a b c ha hb hc
      have hr := c_rInCircle a b c d ha hb hc hd n1 n2 n3
      by_cases hz : signE (crossE a b c) = 0
      · have he : inCircE a b c d = (0, 10) := by simp [inCircE, hok, hf, hz]
        rw [he] at hI
        rw [hz] at ho
        refine contract_of mix Try.func3 rfl rfl (by rw [Try.ntmps3]; exact Nat.le_of_ble_eq_true rfl) ?_; rw [Try.results3, Try.ntmps3]; simp only [argsE, Nat.reduceAdd]
        repeat' first
           | (with_reducible apply go_op)
           | (with_reducible apply go_next)
           | ((with_reducible (show evOp _ _ _ _ _ _)); first
             | ((with_reducible (show evOp _ (.move _) _ _ _ _)) ; first | ((with_reducible apply go_mv_int); rfl; rfl) | ((with_reducible apply go_mv_bool); rfl; rfl) | ((with_reducible apply go_mv_tup); rfl; rfl))
             | ((with_reducible apply go_as))
             | ((with_reducible (show evOp _ (.load _ _) _ _ _ _)) ; first | ((with_reducible apply go_ld_agg); rfl; rfl; rfl; rfl) | ((with_reducible apply go_load_own); rfl; rfl; rfl; rfl))
             | (((with_reducible apply go_index_arr); rfl; rfl; rfl; rfl; omega))
             | (((with_reducible apply go_cmp); rfl; rfl; rfl; rfl))
             | ((with_reducible (show evOp _ (.call _) _ _ _ _)) ; first | ((with_reducible apply go_fn_bool); rfl; (exact c_awake); rfl) | ((with_reducible apply go_fn_plain); rfl; (exact hI); rfl; (exact Nat.le_of_ble_eq_true rfl); rfl) | ((with_reducible apply go_fn_bool); rfl; (exact g1); rfl) | ((with_reducible apply go_fn_bool); rfl; (exact g2); rfl) | ((with_reducible apply go_fn_bool); rfl; (exact g3); rfl) | ((with_reducible apply go_fn_bool); rfl; (exact g4); rfl) | ((with_reducible apply go_fn_bool); (exact purL_os rfl (by simp) rfl); (exact hcl); rfl) | ((with_reducible apply go_fn_int); rfl; (exact ho); rfl))
             | (((with_reducible apply go_st_agg); rfl; rfl; rfl; rfl; rfl; rfl; rfl))
             | (((with_reducible apply go_not); rfl; rfl))
             | (((with_reducible apply go_extract); rfl; rfl))
             | (((with_reducible apply go_pick); rfl; rfl; rfl))
             | (((with_reducible apply go_bx_agg); rfl; rfl; (exact Nat.le_of_ble_eq_true rfl); rfl; rfl))
             | (((with_reducible apply go_alloc); rfl; rfl; rfl))
             | (((with_reducible apply go_bs4_agg); rfl; rfl; rfl; rfl; rfl; rfl; rfl; rfl; rfl; rfl; rfl; rfl)))
           | ((with_reducible (show evOps _ _ _ _ _ _)); first
             | (with_reducible apply go_nil)
             | ((with_reducible apply go_run); rfl; rfl)
             | (with_reducible apply go_take)
             | (with_reducible apply go_take0))
           | ((with_reducible (show evG _ _ _ _ _)); first
             | (with_reducible apply go_seq)
             | (with_reducible apply go_region)
             | ((with_reducible apply go_cond_t); rfl; rfl)
             | ((with_reducible apply go_cond_f); rfl; rfl)
             | ((with_reducible apply (go_drawL 12 [[2, 3, 4, 5, 6, 7], [4, 5, 6, 7], [6, 7], []])); decide +kernel; rfl)
             | (with_reducible apply go_ret)
             | (with_reducible apply go_skipc))
           | (with_reducible apply go_klined)
           | (with_reducible apply go_line_drop)
           | (with_reducible apply go_line_drop0)
           | (with_reducible apply go_line)
           | (with_reducible apply go_line_nil)
           | (with_reducible apply go_kln)
           | (with_reducible apply go_again_nil)
           | ((with_reducible apply go_again); rfl; (intro id'))
           | ((with_reducible apply go_kagain); rfl)
           | (with_reducible apply go_kseq)
           | (with_reducible apply go_kseq_ret)
           | ((with_reducible apply end_bool); rfl)
        all_goals first | rfl | (exfalso; simp_all; done) | trace_state
      · have he : inCircE a b c d = (signE (detE a b c d) * signE (crossE a b c), 0) := by simp [inCircE, hok, hf, hz, Int.mul_comm]
        rw [he] at hI hJ
        refine contract_of mix Try.func3 rfl rfl (by rw [Try.ntmps3]; exact Nat.le_of_ble_eq_true rfl) ?_; rw [Try.results3, Try.ntmps3]; simp only [argsE, Nat.reduceAdd]
        repeat' first
           | (with_reducible apply go_op)
           | (with_reducible apply go_next)
           | ((with_reducible (show evOp _ _ _ _ _ _)); first
             | ((with_reducible (show evOp _ (.move _) _ _ _ _)) ; first | ((with_reducible apply go_mv_int); rfl; rfl) | ((with_reducible apply go_mv_bool); rfl; rfl) | ((with_reducible apply go_mv_tup); rfl; rfl))
             | ((with_reducible apply go_as))
             | ((with_reducible (show evOp _ (.load _ _) _ _ _ _)) ; first | ((with_reducible apply go_ld_agg); rfl; rfl; rfl; rfl) | ((with_reducible apply go_load_own); rfl; rfl; rfl; rfl))
             | (((with_reducible apply go_index_arr); rfl; rfl; rfl; rfl; omega))
             | (((with_reducible apply go_cmp); rfl; rfl; rfl; rfl))
             | ((with_reducible (show evOp _ (.call _) _ _ _ _)) ; first | ((with_reducible apply go_fn_bool); rfl; (exact c_awake); rfl) | ((with_reducible apply go_fn_plain); rfl; (exact hI); rfl; (exact Nat.le_of_ble_eq_true rfl); rfl) | ((with_reducible apply go_fn_plain); rfl; (exact hJ); rfl; (exact Nat.le_of_ble_eq_true rfl); rfl) | ((with_reducible apply go_fn_bool); rfl; (exact g1); rfl) | ((with_reducible apply go_fn_bool); rfl; (exact g2); rfl) | ((with_reducible apply go_fn_bool); rfl; (exact g3); rfl) | ((with_reducible apply go_fn_bool); rfl; (exact g4); rfl) | ((with_reducible apply go_fn_bool); (exact purL_os rfl (by simp) rfl); (exact hcl); rfl) | ((with_reducible apply go_fn_int); rfl; (exact ho); rfl) | ((with_reducible apply go_fn_int); rfl; (exact hr); rfl))
             | (((with_reducible apply go_st_agg); rfl; rfl; rfl; rfl; rfl; rfl; rfl))
             | (((with_reducible apply go_not); rfl; rfl))
             | (((with_reducible apply go_extract); rfl; rfl))
             | (((with_reducible apply go_pick); rfl; rfl; rfl))
             | (((with_reducible apply go_bx_agg); rfl; rfl; (exact Nat.le_of_ble_eq_true rfl); rfl; rfl))
             | (((with_reducible apply go_alloc); rfl; rfl; rfl))
             | (((with_reducible apply go_bs4_agg); rfl; rfl; rfl; rfl; rfl; rfl; rfl; rfl; rfl; rfl; rfl; rfl)))
           | ((with_reducible (show evOps _ _ _ _ _ _)); first
             | (with_reducible apply go_nil)
             | ((with_reducible apply go_run); rfl; rfl)
             | ((with_reducible apply go_pass); rfl; rfl; rfl)
             | (((with_reducible apply go_guard); rfl) <;> (intro h; simp only [h, Bool.not_true, Bool.not_false]; (try with_reducible (refine ⟨rfl, ?_⟩)); try simp only [decide_eq_true_eq, decide_eq_false_iff_not, Bool.not_eq_true', Bool.not_eq_false', Bool.not_true, Bool.not_false] at h; try exact absurd trivial h))
             | (with_reducible apply go_take)
             | (with_reducible apply go_take0))
           | ((with_reducible (show evG _ _ _ _ _)); first
             | (with_reducible apply go_seq)
             | (with_reducible apply go_region)
             | ((with_reducible apply go_cond_f); rfl; rfl)
             | (((with_reducible apply go_cond); rfl) <;> (intro h; simp only [h]; try simp only [decide_eq_true_eq, decide_eq_false_iff_not, Bool.not_eq_true', Bool.not_eq_false', Bool.not_true, Bool.not_false] at h; try exact absurd trivial h))
             | ((with_reducible apply (go_drawL 12 [[2, 3, 4, 5, 6, 7], [4, 5, 6, 7], [6, 7], []])); decide +kernel; rfl)
             | (with_reducible apply go_ret)
             | (with_reducible apply go_skipc))
           | (with_reducible apply go_klined)
           | (with_reducible apply go_line_drop)
           | (with_reducible apply go_line_drop0)
           | (with_reducible apply go_line)
           | (with_reducible apply go_line_nil)
           | (with_reducible apply go_kln)
           | (with_reducible apply go_again_nil)
           | ((with_reducible apply go_again); rfl; (intro id'))
           | ((with_reducible apply go_kagain); rfl)
           | (with_reducible apply go_kseq)
           | (with_reducible apply go_kseq_ret)
           | ((with_reducible apply end_bool); rfl)
        all_goals first | rfl | (exfalso; simp_all; done) | (simp; done) | trace_state
    · rw [hf] at hcl
      have he : inCircE a b c d = (0, 8) := by simp [inCircE, hok, hf]
      rw [he] at hI
      refine contract_of mix Try.func3 rfl rfl (by rw [Try.ntmps3]; exact Nat.le_of_ble_eq_true rfl) ?_; rw [Try.results3, Try.ntmps3]; simp only [argsE, Nat.reduceAdd]
      repeat' first
           | (with_reducible apply go_op)
           | (with_reducible apply go_next)
           | ((with_reducible (show evOp _ _ _ _ _ _)); first
             | ((with_reducible (show evOp _ (.move _) _ _ _ _)) ; first | ((with_reducible apply go_mv_int); rfl; rfl) | ((with_reducible apply go_mv_bool); rfl; rfl) | ((with_reducible apply go_mv_tup); rfl; rfl))
             | ((with_reducible apply go_as))
             | ((with_reducible (show evOp _ (.load _ _) _ _ _ _)) ; first | ((with_reducible apply go_ld_agg); rfl; rfl; rfl; rfl) | ((with_reducible apply go_load_own); rfl; rfl; rfl; rfl))
             | (((with_reducible apply go_index_arr); rfl; rfl; rfl; rfl; omega))
             | (((with_reducible apply go_cmp); rfl; rfl; rfl; rfl))
             | ((with_reducible (show evOp _ (.call _) _ _ _ _)) ; first | ((with_reducible apply go_fn_bool); rfl; (exact c_awake); rfl) | ((with_reducible apply go_fn_plain); rfl; (exact hI); rfl; (exact Nat.le_of_ble_eq_true rfl); rfl) | ((with_reducible apply go_fn_bool); rfl; (exact g1); rfl) | ((with_reducible apply go_fn_bool); rfl; (exact g2); rfl) | ((with_reducible apply go_fn_bool); rfl; (exact g3); rfl) | ((with_reducible apply go_fn_bool); rfl; (exact g4); rfl) | ((with_reducible apply go_fn_bool); (exact purL_os rfl (by simp) rfl); (exact hcl); rfl))
             | (((with_reducible apply go_st_agg); rfl; rfl; rfl; rfl; rfl; rfl; rfl))
             | (((with_reducible apply go_not); rfl; rfl))
             | (((with_reducible apply go_extract); rfl; rfl))
             | (((with_reducible apply go_pick); rfl; rfl; rfl))
             | (((with_reducible apply go_bx_agg); rfl; rfl; (exact Nat.le_of_ble_eq_true rfl); rfl; rfl))
             | (((with_reducible apply go_alloc); rfl; rfl; rfl))
             | (((with_reducible apply go_bs4_agg); rfl; rfl; rfl; rfl; rfl; rfl; rfl; rfl; rfl; rfl; rfl; rfl)))
           | ((with_reducible (show evOps _ _ _ _ _ _)); first
             | (with_reducible apply go_nil)
             | ((with_reducible apply go_run); rfl; rfl)
             | (with_reducible apply go_take)
             | (with_reducible apply go_take0))
           | ((with_reducible (show evG _ _ _ _ _)); first
             | (with_reducible apply go_seq)
             | (with_reducible apply go_region)
             | ((with_reducible apply go_cond_t); rfl; rfl)
             | ((with_reducible apply go_cond_f); rfl; rfl)
             | ((with_reducible apply (go_drawL 12 [[2, 3, 4, 5, 6, 7], [4, 5, 6, 7], [6, 7], []])); decide +kernel; rfl)
             | (with_reducible apply go_ret)
             | (with_reducible apply go_skipc))
           | (with_reducible apply go_klined)
           | (with_reducible apply go_line_drop)
           | (with_reducible apply go_line_drop0)
           | (with_reducible apply go_line)
           | (with_reducible apply go_line_nil)
           | (with_reducible apply go_kln)
           | (with_reducible apply go_again_nil)
           | ((with_reducible apply go_again); rfl; (intro id'))
           | ((with_reducible apply go_kagain); rfl)
           | (with_reducible apply go_kseq)
           | (with_reducible apply go_kseq_ret)
           | ((with_reducible apply end_bool); rfl)
      all_goals first | rfl | (exfalso; simp_all; done) | trace_state
end Go.Pv.Geo

import Derived.Test.YtdedpndkohfgbaaProg
import Derived.Test.YtdedpndkohfgbaaWAG
import Derived.KernelRfl
import Derived.Test.YtdedpndkohfgbaaWAD
import Derived.Test.YtdedpndkohfgbaaWAC
import Derived.Test.YtdedpndkohfgbaaWAF
/- Part of the proofs over Ytdedpndkohfgbaa: S24, S69, S70, S71, S72, S73, U1, S25, S74, R0, R2, R5. -/
set_option linter.unusedVariables false
set_option linter.unusedSimpArgs false
set_option linter.unnecessarySimpa false
open Go Go.Proofs Go.Pv
set_option maxHeartbeats 2000000
set_option maxRecDepth 100000
set_option linter.unusedSimpArgs false
set_option linter.unusedVariables false
namespace Go.Pv.Soil

/-- A grid that is in order. -/
structure OkGrid (g : Grid) : Prop where
  bds : ((-1000000 ≤ g.x ∧ g.x ≤ 1000000) ∧ -1000000 ≤ g.y ∧ g.y ≤ 1000000) ∧ (100 ≤ g.side ∧ g.side ≤ 10000) ∧ (1 ≤ g.cols ∧ g.cols ≤ 1024) ∧ 1 ≤ g.rows ∧ g.rows ≤ 1024
  cells : g.cols * g.rows ≤ 1024
  ends : g.x + g.cols * g.side ≤ 1000000 ∧ g.y + g.rows * g.side ≤ 1000000
  len : (g.levels.length : Int) = g.cols * g.rows
  lvl : ∀ i (h : i < g.levels.length), g.levels[i] = 30000 ∨ lvOK g.levels[i] = true

theorem okGrid {g : Grid} (h : gridE g = 0) : OkGrid g := by
  unfold gridE at h
  split at h
  · omega
  · rename_i h1
    split at h
    · omega
    · split at h
      · omega
      · split at h
        · omega
        · split at h
          · omega
          · rename_i h5
            refine ⟨Decidable.not_not.1 h1, by omega, by omega, by omega, fun i hi => ?_⟩
            simp only [List.any_eq_true, not_exists, not_and] at h5
            have := h5 _ (List.getElem_mem hi)
            simp only [badLv, Bool.and_eq_true, decide_eq_true_eq, Bool.not_eq_true', not_and, Bool.not_eq_false] at this
            by_cases h3 : g.levels[i] = 30000
            · exact .inl h3
            · exact .inr (this h3)

theorem OkGrid.small {g : Grid} (h : OkGrid g) : g.levels.length ≤ 1024 := by have := h.len; have := h.cells; omega

/-- The middle of a cell. -/
def colE' (g : Grid) (i : Nat) : Int := (i : Int) % g.cols
def rowE' (g : Grid) (i : Nat) : Int := (i : Int) / g.cols
def centreE (g : Grid) (i : Nat) : Pt := ⟨g.x + (i : Int) % g.cols * g.side + g.side / 2, g.y + (i : Int) / g.cols * g.side + g.side / 2⟩
def cornerE (g : Grid) (i : Nat) : Pt := ⟨g.x + (i : Int) % g.cols * g.side, g.y + (i : Int) / g.cols * g.side⟩
theorem nonneg_mul {a b m n : Int} (ha : 0 ≤ a ∧ a ≤ m) (hb : 0 ≤ b ∧ b ≤ n) : 0 ≤ a * b ∧ a * b ≤ m * n :=
  ⟨Int.mul_nonneg ha.1 hb.1, Int.mul_le_mul ha.2 hb.2 hb.1 (by omega)⟩
theorem cell_bds {g : Grid} (h : OkGrid g) {i : Nat} (hi : i < g.levels.length) : (0 ≤ (i : Int) % g.cols ∧ (i : Int) % g.cols < g.cols) ∧ (0 ≤ (i : Int) / g.cols ∧ (i : Int) / g.cols < g.rows) ∧
    (0 ≤ (i : Int) % g.cols * g.side ∧ (i : Int) % g.cols * g.side ≤ 10240000) ∧ (0 ≤ (i : Int) / g.cols * g.side ∧ (i : Int) / g.cols * g.side ≤ 10240000) := by
  have hb := h.bds
  have h1 : 0 ≤ (i : Int) % g.cols := Int.emod_nonneg _ (by omega)
  have h2 : (i : Int) % g.cols < g.cols := Int.emod_lt_of_pos _ (by omega)
  have h3 : 0 ≤ (i : Int) / g.cols := Int.ediv_nonneg (by omega) (by omega)
  have h4 : (i : Int) / g.cols < g.rows := Int.ediv_lt_of_lt_mul (by omega) (by have := h.len; rw [Int.mul_comm]; omega)
  have h5 := nonneg_mul (a := (i : Int) % g.cols) (b := g.side) (m := 1024) (n := 10000) (by omega) (by omega)
  have h6 := nonneg_mul (a := (i : Int) / g.cols) (b := g.side) (m := 1024) (n := 10000) (by omega) (by omega)
  omega

theorem c60 (g : Grid) (hl : g.levels.length < 1000000000000) (i : Int) : Contract Try.prog 60 [.agg (encGrid g), .int .i64 i] (.ret (.bool (decide (0 ≤ i ∧ i < g.levels.length)))) := by
  refine contract_of mix Try.func60 rfl rfl (by rw [Try.ntmps60]; exact Nat.le_of_ble_eq_true rfl) ?_; rw [Try.results60, Try.ntmps60]; simp only [argsE, Nat.reduceAdd]
  repeat' first
           | (with_reducible apply go_op)
           | (with_reducible apply go_next)
           | ((with_reducible (show evOp _ _ _ _ _ _)); first
             | ((with_reducible (show evOp _ (.move _) _ _ _ _)) ; first | ((with_reducible apply go_mv_int); rfl; rfl) | ((with_reducible apply go_mv_bool); rfl; rfl))
             | ((with_reducible apply go_as))
             | (((with_reducible apply go_load_own); rfl; rfl; rfl; rfl))
             | (((with_reducible apply go_fieldAddr_own); rfl; rfl; rfl))
             | (((with_reducible apply go_cmp); rfl; rfl; rfl; rfl))
             | (((with_reducible apply go_len); rfl; rfl))
             | (((with_reducible apply go_pick); rfl; rfl; rfl))
             | (((with_reducible apply go_bx_agg); rfl; rfl; (exact Nat.le_of_ble_eq_true rfl); rfl; rfl)))
           | ((with_reducible (show evOps _ _ _ _ _ _)); first
             | (with_reducible apply go_nil)
             | ((with_reducible apply go_run); rfl; rfl)
             | ((with_reducible apply go_pass); rfl; rfl; rfl)
             | (((with_reducible apply go_guard); rfl) <;> (intro h; simp only [h, Bool.not_true, Bool.not_false]; (try with_reducible (refine ⟨rfl, ?_⟩)); try simp only [decide_eq_true_eq, decide_eq_false_iff_not, Bool.not_eq_true', Bool.not_eq_false', Bool.not_true, Bool.not_false] at h; try exact absurd trivial h)))
           | ((with_reducible (show evG _ _ _ _ _)); first
             | (with_reducible apply go_seq)
             | (with_reducible apply go_region)
             | (with_reducible apply go_ret))
           | (with_reducible apply go_kseq)
           | ((with_reducible apply end_bool); rfl)
  · exact decide_eq_decide.2 (by omega)
  · exact (decide_eq_false (by omega)).symm

theorem c104 (g : Grid) (i : Nat) (hi : i < g.levels.length) : Contract Try.prog 104 [.agg (encGrid g), .int .i64 i] (.ret (.bool (!decide (g.levels[i] = 30000)))) := by
  refine contract_of mix Try.func104 rfl rfl (by rw [Try.ntmps104]; exact Nat.le_of_ble_eq_true rfl) ?_; rw [Try.results104, Try.ntmps104]; simp only [argsE, Nat.reduceAdd]
  repeat' first
           | (with_reducible apply go_op)
           | (with_reducible apply go_next)
           | ((with_reducible (show evOp _ _ _ _ _ _)); first
             | ((with_reducible (show evOp _ (.move _) _ _ _ _)) ; first | ((with_reducible apply go_mv_int); rfl; rfl) | ((with_reducible apply go_mv_bool); rfl; rfl))
             | ((with_reducible apply go_as))
             | ((with_reducible (show evOp _ (.load _ _) _ _ _ _)) ; first | ((with_reducible apply go_load); rfl; rfl; rfl) | ((with_reducible apply go_load_own); rfl; rfl; rfl; rfl))
             | (((with_reducible apply go_fieldAddr_own); rfl; rfl; rfl))
             | (((with_reducible apply go_index_nat); rfl; rfl; (with_reducible rfl); (intro; rfl); rfl; omega; (intro hlt)))
             | (((with_reducible apply go_cmp); rfl; rfl; rfl; rfl))
             | (((with_reducible apply go_bx_agg); rfl; rfl; (exact Nat.le_of_ble_eq_true rfl); rfl; rfl)))
           | ((with_reducible (show evOps _ _ _ _ _ _)); first
             | (with_reducible apply go_nil))
           | ((with_reducible (show evG _ _ _ _ _)); first
             | (with_reducible apply go_seq)
             | (with_reducible apply go_region)
             | (with_reducible apply go_ret))
           | (with_reducible apply go_kseq)
           | ((with_reducible apply end_bool); rfl)
           | (with_reducible rfl)

theorem c41 (g : Grid) (hl : g.levels.length < 1000000000000) (i : Nat) (hi : i < g.levels.length) : Contract Try.prog 41 [.agg (encGrid g), .int .i64 i] (.ret (.bool (!decide (g.levels[i] = 30000)))) := by
  have h60 : Contract Try.prog 60 [.agg (encGrid g), .int .i64 i] (.ret (.bool true)) := by
    have := c60 g hl i
    rwa [decide_eq_true (by omega)] at this
  refine contract_of mix Try.func41 rfl rfl (by rw [Try.ntmps41]; exact Nat.le_of_ble_eq_true rfl) ?_; rw [Try.results41, Try.ntmps41]; simp only [argsE, Nat.reduceAdd]
  repeat' first
           | (with_reducible apply go_op)
           | (with_reducible apply go_next)
           | ((with_reducible (show evOp _ _ _ _ _ _)); first
             | ((with_reducible (show evOp _ (.move _) _ _ _ _)) ; first | ((with_reducible apply go_mv_int); rfl; rfl) | ((with_reducible apply go_mv_bool); rfl; rfl))
             | ((with_reducible apply go_as))
             | ((with_reducible (show evOp _ (.load _ _) _ _ _ _)) ; first | ((with_reducible apply go_ld_agg); rfl; rfl; rfl; rfl) | ((with_reducible apply go_load); rfl; rfl; rfl) | ((with_reducible apply go_load_own); rfl; rfl; rfl; rfl))
             | (((with_reducible apply go_fieldAddr_own); rfl; rfl; rfl))
             | (((with_reducible apply go_index_nat); rfl; rfl; (with_reducible rfl); (intro; rfl); rfl; omega; (intro hlt)))
             | (((with_reducible apply go_cmp); rfl; rfl; rfl; rfl))
             | (((with_reducible apply go_fn_bool); rfl; (exact h60); rfl))
             | (((with_reducible apply go_pick); rfl; rfl; rfl))
             | (((with_reducible apply go_bx_agg); rfl; rfl; (exact Nat.le_of_ble_eq_true rfl); rfl; rfl)))
           | ((with_reducible (show evOps _ _ _ _ _ _)); first
             | (with_reducible apply go_nil)
             | ((with_reducible apply go_run); rfl; rfl))
           | ((with_reducible (show evG _ _ _ _ _)); first
             | (with_reducible apply go_seq)
             | (with_reducible apply go_region)
             | (with_reducible apply go_ret))
           | (with_reducible apply go_kseq)
           | ((with_reducible apply end_bool); rfl)
           | (with_reducible rfl)

theorem cells62 : Try.prog.cellsOf 62 = 2 := by kernel_rfl
theorem c103 (g : Grid) (h : OkGrid g) (i : Nat) (hi : i < g.levels.length) : Contract Try.prog 103 [.agg (encGrid g), .int .i64 i] (.ret (.agg (encPt (centreE g i)))) := by
  have hb := h.bds
  have hc := cell_bds h hi
  have hs := h.small
  refine contract_of mix Try.func103 rfl rfl (by rw [Try.ntmps103]; exact Nat.le_of_ble_eq_true rfl) ?_; rw [Try.results103, Try.ntmps103]; simp only [argsE, Nat.reduceAdd]
  repeat' first
           | (with_reducible apply go_op)
           | (with_reducible apply go_next)
           | ((with_reducible (show evOp _ _ _ _ _ _)); first
             | (((with_reducible apply go_mv_int); rfl; rfl))
             | (((with_reducible apply go_load_own); rfl; rfl; rfl; rfl))
             | (((with_reducible apply go_fieldAddr_own); rfl; rfl; rfl))
             | ((with_reducible (show evOp _ (.binOp _ _ _ _ _) _ _ _ _)) ; first | ((with_reducible apply go_add); rfl; rfl; rfl; omega) | ((with_reducible apply go_mul); rfl; rfl; rfl; omega) | ((with_reducible apply go_rem_pos); rfl; rfl; rfl; omega) | ((with_reducible apply go_quo_pos); rfl; rfl; rfl; omega))
             | (((with_reducible apply go_st_agg); rfl; rfl; rfl; rfl; rfl; rfl; rfl))
             | (((with_reducible apply go_bd2_int); rfl; rfl; rfl; rfl))
             | (((with_reducible apply go_bx_agg); rfl; rfl; (exact Nat.le_of_ble_eq_true rfl); rfl; rfl))
             | (((with_reducible apply go_alloc); rfl; rfl; rfl)))
           | ((with_reducible (show evOps _ _ _ _ _ _)); first
             | (with_reducible apply go_nil)
             | ((with_reducible apply go_pre); rfl)
             | ((with_reducible apply go_pre_stop); rfl)
             | ((with_reducible apply go_suf); rfl)
             | ((with_reducible apply go_suf_stop); rfl))
           | ((with_reducible (show evG _ _ _ _ _)); first
             | (with_reducible apply go_seq)
             | (with_reducible apply go_region)
             | ((with_reducible apply go_order); kernel_rfl; rfl)
             | (with_reducible apply go_ret))
           | (with_reducible apply go_kseq)
           | (with_reducible apply go_ksuf)
           | ((with_reducible apply end_agg); rfl; rfl)
  rw [cells62]; rfl

theorem c175 (g : Grid) (h : OkGrid g) (i : Nat) (hi : i < g.levels.length) : Contract Try.prog 175 [.agg (encGrid g), .int .i64 i] (.ret (.agg (encPt (cornerE g i)))) := by
  have hb := h.bds
  have hc := cell_bds h hi
  have hs := h.small
  refine contract_of mix Try.func175 rfl rfl (by rw [Try.ntmps175]; exact Nat.le_of_ble_eq_true rfl) ?_; rw [Try.results175, Try.ntmps175]; simp only [argsE, Nat.reduceAdd]
  repeat' first
           | (with_reducible apply go_op)
           | (with_reducible apply go_next)
           | ((with_reducible (show evOp _ _ _ _ _ _)); first
             | (((with_reducible apply go_mv_int); rfl; rfl))
             | (((with_reducible apply go_load_own); rfl; rfl; rfl; rfl))
             | (((with_reducible apply go_fieldAddr_own); rfl; rfl; rfl))
             | ((with_reducible (show evOp _ (.binOp _ _ _ _ _) _ _ _ _)) ; first | ((with_reducible apply go_add); rfl; rfl; rfl; omega) | ((with_reducible apply go_mul); rfl; rfl; rfl; omega) | ((with_reducible apply go_rem_pos); rfl; rfl; rfl; omega) | ((with_reducible apply go_quo_pos); rfl; rfl; rfl; omega))
             | (((with_reducible apply go_st_agg); rfl; rfl; rfl; rfl; rfl; rfl; rfl))
             | (((with_reducible apply go_bd2_int); rfl; rfl; rfl; rfl))
             | (((with_reducible apply go_bx_agg); rfl; rfl; (exact Nat.le_of_ble_eq_true rfl); rfl; rfl))
             | (((with_reducible apply go_alloc); rfl; rfl; rfl)))
           | ((with_reducible (show evOps _ _ _ _ _ _)); first
             | (with_reducible apply go_nil)
             | ((with_reducible apply go_pre); rfl)
             | ((with_reducible apply go_pre_stop); rfl)
             | ((with_reducible apply go_suf); rfl)
             | ((with_reducible apply go_suf_stop); rfl))
           | ((with_reducible (show evG _ _ _ _ _)); first
             | (with_reducible apply go_seq)
             | (with_reducible apply go_region)
             | ((with_reducible apply go_order); kernel_rfl; rfl)
             | (with_reducible apply go_ret))
           | (with_reducible apply go_kseq)
           | (with_reducible apply go_ksuf)
           | ((with_reducible apply end_agg); rfl; rfl)
  rw [cells62]; rfl

theorem c131 (g : Grid) (h : OkGrid g) (i : Nat) (hi : i < g.levels.length) : Contract Try.prog 131 [.agg (encGrid g), .int .i64 i] (.ret (.agg (encPt (centreE g i)))) := by
  have hb := h.bds
  have hc := cell_bds h hi
  have hs := h.small
  have h175 : Contract Try.prog 175 [.agg (encGrid g), .int .i64 i] (.ret (.agg [.int .i64 (g.x + (i : Int) % g.cols * g.side), .int .i64 (g.y + (i : Int) / g.cols * g.side)])) := c175 g h i hi
  refine contract_of mix Try.func131 rfl rfl (by rw [Try.ntmps131]; exact Nat.le_of_ble_eq_true rfl) ?_; rw [Try.results131, Try.ntmps131]; simp only [argsE, Nat.reduceAdd]
  repeat' first
           | (with_reducible apply go_op)
           | (with_reducible apply go_next)
           | ((with_reducible (show evOp _ _ _ _ _ _)); first
             | (((with_reducible apply go_mv_int); rfl; rfl))
             | ((with_reducible (show evOp _ (.load _ _) _ _ _ _)) ; first | ((with_reducible apply go_ld_agg); rfl; rfl; rfl; rfl) | ((with_reducible apply go_load_own); rfl; rfl; rfl; rfl))
             | (((with_reducible apply go_fieldAddr_own); rfl; rfl; rfl))
             | ((with_reducible (show evOp _ (.binOp _ _ _ _ _) _ _ _ _)) ; first | ((with_reducible apply go_add); rfl; rfl; rfl; omega) | ((with_reducible apply go_quo_pos); rfl; rfl; rfl; omega))
             | (((with_reducible apply go_fn_plain); rfl; (exact h175); rfl; (exact Nat.le_of_ble_eq_true rfl); rfl))
             | (((with_reducible apply go_st_agg); rfl; rfl; rfl; rfl; rfl; rfl; rfl))
             | (((with_reducible apply go_bd2_int); rfl; rfl; rfl; rfl))
             | (((with_reducible apply go_bx_agg); rfl; rfl; (exact Nat.le_of_ble_eq_true rfl); rfl; rfl))
             | (((with_reducible apply go_alloc); rfl; rfl; rfl)))
           | ((with_reducible (show evOps _ _ _ _ _ _)); first
             | (with_reducible apply go_nil))
           | ((with_reducible (show evG _ _ _ _ _)); first
             | (with_reducible apply go_seq)
             | (with_reducible apply go_region)
             | (with_reducible apply go_ret))
           | (with_reducible apply go_kseq)
           | ((with_reducible apply end_agg); rfl; rfl)
  all_goals (rw [cells62]; rfl)

theorem c130 (g : Grid) (h : OkGrid g) (i : Nat) (hi : i < g.levels.length) (h0 : gridE g = 0) : Contract Try.prog 130 [.agg (encGrid g), .int .i64 i] (.ret (.int .i64 0)) := by
  have hs := h.small
  have h144 := c144 g (by omega)
  rw [h0] at h144
  refine contract_of mix Try.func130 rfl rfl (by rw [Try.ntmps130]; exact Nat.le_of_ble_eq_true rfl) ?_; rw [Try.results130, Try.ntmps130]; simp only [argsE, Nat.reduceAdd]
  repeat' first
           | (with_reducible apply go_op)
           | (with_reducible apply go_next)
           | ((with_reducible (show evOp _ _ _ _ _ _)); first
             | (((with_reducible apply go_mv_int); rfl; rfl))
             | ((with_reducible apply go_as))
             | ((with_reducible (show evOp _ (.load _ _) _ _ _ _)) ; first | ((with_reducible apply go_ld_agg); rfl; rfl; rfl; rfl) | ((with_reducible apply go_load_own); rfl; rfl; rfl; rfl))
             | (((with_reducible apply go_fieldAddr_own); rfl; rfl; rfl))
             | ((with_reducible (show evOp _ (.binOp _ _ _ _ _) _ _ _ _)) ; first | ((with_reducible apply go_cmp); rfl; rfl; rfl; rfl) | ((with_reducible apply go_sub); rfl; rfl; rfl; omega))
             | ((with_reducible (show evOp _ (.call _) _ _ _ _)) ; first | ((with_reducible apply go_len); rfl; rfl) | ((with_reducible apply go_fn_int); rfl; (exact h144); rfl) | ((with_reducible apply go_fn_bool); rfl; (exact c174' _ _ _); rfl))
             | (((with_reducible apply go_not); rfl; rfl))
             | (((with_reducible apply go_bx_agg); rfl; rfl; (exact Nat.le_of_ble_eq_true rfl); rfl; rfl))
             | (((with_reducible apply go_bs1_int); rfl; rfl; rfl)))
           | ((with_reducible (show evOps _ _ _ _ _ _)); first
             | (with_reducible apply go_nil))
           | ((with_reducible (show evG _ _ _ _ _)); first
             | (with_reducible apply go_seq)
             | (with_reducible apply go_region)
             | ((with_reducible apply go_cond_f); rfl; rfl)
             | (((with_reducible apply go_cond); rfl) <;> (intro h; simp only [h]; try simp only [decide_eq_true_eq, decide_eq_false_iff_not, Bool.not_eq_true', Bool.not_eq_false', Bool.not_true, Bool.not_false] at h; try exact absurd trivial h))
             | (with_reducible apply go_ret)
             | (with_reducible apply go_skipc))
           | (with_reducible apply go_kseq)
           | (with_reducible apply go_kseq_ret)
           | ((with_reducible apply end_int); rfl)
           | (with_reducible rfl)
  all_goals (exfalso; omega)

theorem c74 (g : Grid) (h : OkGrid g) (i : Nat) (hi : i < g.levels.length) (h0 : gridE g = 0) : Contract Try.prog 74 [.agg (encGrid g), .int .i64 i] (.ret (.tup [.agg (encPt (centreE g i)), .int .i64 0])) := by
  have h130 := c130 g h i hi h0
  have h131 := c131 g h i hi
  refine contract_of mix Try.func74 rfl rfl (by rw [Try.ntmps74]; exact Nat.le_of_ble_eq_true rfl) ?_; rw [Try.results74, Try.ntmps74]; simp only [argsE, Nat.reduceAdd]
  repeat' first
           | (with_reducible apply go_op)
           | (with_reducible apply go_next)
           | ((with_reducible (show evOp _ _ _ _ _ _)); first
             | (((with_reducible apply go_mv_int); rfl; rfl))
             | ((with_reducible apply go_as))
             | (((with_reducible apply go_ld_agg); rfl; rfl; rfl; rfl))
             | (((with_reducible apply go_cmp); rfl; rfl; rfl; rfl))
             | ((with_reducible (show evOp _ (.call _) _ _ _ _)) ; first | ((with_reducible apply go_fn_int); rfl; (exact h130); rfl) | ((with_reducible apply go_fn_plain); rfl; (exact h131); rfl; (exact Nat.le_of_ble_eq_true rfl); rfl))
             | (((with_reducible apply go_st_agg); rfl; rfl; rfl; rfl; rfl; rfl; rfl))
             | (((with_reducible apply go_bx_agg); rfl; rfl; (exact Nat.le_of_ble_eq_true rfl); rfl; rfl))
             | (((with_reducible apply go_alloc); rfl; rfl; rfl)))
           | ((with_reducible (show evOps _ _ _ _ _ _)); first
             | (with_reducible apply go_nil))
           | ((with_reducible (show evG _ _ _ _ _)); first
             | (with_reducible apply go_seq)
             | (with_reducible apply go_region)
             | ((with_reducible apply go_cond_f); rfl; rfl)
             | (with_reducible apply go_ret)
             | (with_reducible apply go_skipc))
           | (with_reducible apply go_kseq)
           | ((with_reducible apply end_t2); rfl; rfl; rfl; rfl)
  all_goals (rw [cells62]; rfl)

theorem c101 (g : Grid) (h : OkGrid g) (i : Nat) (hi : i < g.levels.length) (h0 : gridE g = 0) : Contract Try.prog 101 [.agg (encGrid g), .int .i64 i] (.ret (.agg (encPt (centreE g i)))) := by
  have h74 := c74 g h i hi h0
  refine contract_of mix Try.func101 rfl rfl (by rw [Try.ntmps101]; exact Nat.le_of_ble_eq_true rfl) ?_; rw [Try.results101, Try.ntmps101]; simp only [argsE, Nat.reduceAdd]
  repeat' first
           | (with_reducible apply go_op)
           | (with_reducible apply go_next)
           | ((with_reducible (show evOp _ _ _ _ _ _)); first
             | ((with_reducible (show evOp _ (.move _) _ _ _ _)) ; first | ((with_reducible apply go_mv_int); rfl; rfl) | ((with_reducible apply go_mv_tup); rfl; rfl))
             | ((with_reducible apply go_as))
             | (((with_reducible apply go_ld_agg); rfl; rfl; rfl; rfl))
             | (((with_reducible apply go_fn_plain); rfl; (exact h74); rfl; (exact Nat.le_of_ble_eq_true rfl); rfl))
             | (((with_reducible apply go_st_agg); rfl; rfl; rfl; rfl; rfl; rfl; rfl))
             | (((with_reducible apply go_extract); rfl; rfl))
             | (((with_reducible apply go_bx_agg); rfl; rfl; (exact Nat.le_of_ble_eq_true rfl); rfl; rfl))
             | (((with_reducible apply go_alloc); rfl; rfl; rfl)))
           | ((with_reducible (show evOps _ _ _ _ _ _)); first
             | (with_reducible apply go_nil))
           | ((with_reducible (show evG _ _ _ _ _)); first
             | (with_reducible apply go_seq)
             | (with_reducible apply go_region)
             | (with_reducible apply go_ret))
           | (with_reducible apply go_kseq)
           | ((with_reducible apply end_agg); rfl; rfl)
  all_goals (rw [cells62]; rfl)

end Go.Pv.Soil

open Go Go.Proofs Go.Pv
set_option maxHeartbeats 4000000
set_option maxRecDepth 100000
set_option linter.unusedSimpArgs false
set_option linter.unusedVariables false
namespace Go.Pv.Soil
theorem c169 (g : Grid) (hl : g.levels.length ≤ 1000000000) (h0 : gridE g = 0) : Contract Try.prog 169 [.agg (encGrid g)] (.ret (.tup [.agg (encF5 g ++ [.fr 1 ((List.replicate g.levels.length (30000 : Int)).map encInt)]), .int .i64 0])) := by
  have h1 := c144 g (by omega)
  rw [h0] at h1
  have h2 := c193 g hl
  generalize hR : List.replicate g.levels.length (30000 : Int) = R at *
  have hlen : R.length = g.levels.length := by rw [← hR]; simp
  refine contract_of mix Try.func169 rfl rfl (by rw [Try.ntmps169]; exact Nat.le_of_ble_eq_true rfl) ?_; rw [Try.results169, Try.ntmps169]; simp only [argsE, Nat.reduceAdd]
  repeat' first
           | (with_reducible apply go_op)
           | (with_reducible apply go_next)
           | ((with_reducible (show evOp _ _ _ _ _ _)); first
             | (((with_reducible apply go_mv_int); rfl; rfl))
             | ((with_reducible apply go_as))
             | (((with_reducible apply go_ld_agg); rfl; rfl; rfl; rfl))
             | (((with_reducible apply go_cmp); rfl; rfl; rfl; rfl))
             | (((with_reducible apply go_fn_int); rfl; (exact h1); rfl))
             | (((with_reducible apply go_bx_agg); rfl; rfl; (exact Nat.le_of_ble_eq_true rfl); rfl; rfl))
             | (((with_reducible apply go_alloc); rfl; rfl; rfl)))
           | ((with_reducible (show evOps _ _ _ _ _ _)); first
             | (with_reducible apply go_nil))
           | ((with_reducible (show evG _ _ _ _ _)); first
             | (with_reducible apply go_seq)
             | (with_reducible apply go_region)
             | ((with_reducible apply go_cond_f); rfl; rfl)
             | (with_reducible apply go_skipc))
           | (with_reducible apply go_kseq)
  all_goals try (exfalso; omega)
  refine go_fn_agf (f := encInt) (l := R) (cs := encF5 g) (q := 5) (args' := [.agg (encGrid g), .clo (.func 194) [] []]) rfl h2 (fun _ => ⟨rfl, rfl⟩) rfl rfl rfl rfl rfl ?_
  repeat' first
           | (with_reducible apply go_op)
           | (with_reducible apply go_next)
           | ((with_reducible (show evOp _ _ _ _ _ _)); first
             | (((with_reducible apply go_mv_int); rfl; rfl))
             | ((with_reducible apply go_as))
             | (((with_reducible apply go_st_agg); rfl; rfl; rfl; rfl; rfl; rfl; rfl)))
           | ((with_reducible (show evOps _ _ _ _ _ _)); first
             | (with_reducible apply go_nil))
           | ((with_reducible (show evG _ _ _ _ _)); first
             | (with_reducible apply go_ret))
           | (with_reducible apply go_kseq)
  all_goals first
    | (exfalso; omega)
    | exact finK_ret (fin_agf2 (cs := encF5 g) (len := R.length) rfl rfl (by simp) rfl rfl rfl)
    | trace_state
end Go.Pv.Soil

open Go Go.Proofs Go.Pv
set_option maxHeartbeats 4000000
set_option maxRecDepth 100000
set_option linter.unusedSimpArgs false
set_option linter.unusedVariables false
namespace Go.Pv.Soil
def cenG (m : Grid) (k : Nat) : Geo.Pt := ⟨(centreE m k).x, (centreE m k).y⟩
noncomputable def wedV (q : Quay) (m : Grid) (k : Nat) : Int := if (wedgeE q (cenG m k)).2 = true then (wedgeE q (cenG m k)).1 else 30000
noncomputable def wedL (q : Quay) (m : Grid) (n i : Nat) : List Int := (List.range n).map fun k => if k < i then wedV q m k else 30000
theorem wed_0 (q : Quay) (m : Grid) (n : Nat) : List.replicate n (30000 : Int) = wedL q m n 0 := by
  apply List.ext_getElem <;> simp [wedL]
theorem wed_len {q : Quay} {m : Grid} {n i : Nat} : (wedL q m n i).length = n := by simp [wedL]
theorem wed_yes {q : Quay} {m : Grid} {n i : Nat} (h : (wedgeE q (cenG m i)).2 = true) : (wedL q m n i).set i (wedgeE q (cenG m i)).1 = wedL q m n (i + 1) := by
  apply List.ext_getElem
  · simp [wedL]
  · intro j h1 h2
    simp only [List.getElem_set, wedL, List.getElem_map, List.getElem_range]
    by_cases hj : i = j
    · subst hj; rw [if_pos rfl, if_pos (by omega), wedV, if_pos h]
    · rw [if_neg hj]
      by_cases hlt : j < i
      · rw [if_pos hlt, if_pos (by omega)]
      · rw [if_neg hlt, if_neg (by omega)]
theorem wed_no {q : Quay} {m : Grid} {n i : Nat} (h : (wedgeE q (cenG m i)).2 = false) : wedL q m n i = wedL q m n (i + 1) := by
  apply List.ext_getElem
  · simp [wedL]
  · intro j h1 h2
    simp only [wedL, List.getElem_map, List.getElem_range]
    by_cases hj : i = j
    · subst hj; rw [if_neg (by omega), if_pos (by omega), wedV, if_neg (by rw [h]; simp)]
    · by_cases hlt : j < i
      · rw [if_pos hlt, if_pos (by omega)]
      · rw [if_neg hlt, if_neg (by omega)]
end Go.Pv.Soil

open Go Go.Proofs Go.Pv
set_option maxHeartbeats 4000000
set_option maxRecDepth 100000
set_option linter.unusedSimpArgs false
set_option linter.unusedVariables false
namespace Go.Pv.Soil
theorem cen_ok {m : Grid} (h : OkGrid m) {i : Nat} (hi : i < m.levels.length) : Geo.ptOK (cenG m i) = true := by
  have hc := cell_bds h hi
  have hb := h.bds
  have he := h.ends
  have e1 := Int.mul_le_mul_of_nonneg_right (show (i : Int) % m.cols + 1 ≤ m.cols by omega) (show 0 ≤ m.side by omega)
  have e2 := Int.mul_le_mul_of_nonneg_right (show (i : Int) / m.cols + 1 ≤ m.rows by omega) (show 0 ≤ m.side by omega)
  rw [Int.add_mul, Int.one_mul] at e1 e2
  refine decide_eq_true ?_
  simp only [cenG, centreE]
  omega
theorem c127 (q : Quay) (hq : quayE q = 0) (m : Grid) (hm : OkGrid m) (h0 : gridE m = 0) (hl : m.levels.length ≤ 1000000000) : Contract Try.prog 127 [.agg (encQuay q), .agg (encGrid m)] (.ret (.tup [.agg (encF5 m ++ [.fr 1 ((wedL q m m.levels.length m.levels.length).map encInt)]), .int .i64 0])) := by
  have h1 := c168 q
  rw [hq] at h1
  have h2 := c169 m hl h0
  rw [wed_0 q m] at h2
  have hF : ScalF encInt 1 := fun _ => ⟨rfl, rfl⟩
  refine contract_of mix Try.func127 rfl rfl (by rw [Try.ntmps127]; exact Nat.le_of_ble_eq_true rfl) ?_; rw [Try.results127, Try.ntmps127]; simp only [argsE, Nat.reduceAdd]
  repeat' first
           | (with_reducible apply go_op)
           | (with_reducible apply go_next)
           | ((with_reducible (show evOp _ _ _ _ _ _)); first
             | (((with_reducible apply go_mv_int); rfl; rfl))
             | ((with_reducible apply go_as))
             | (((with_reducible apply go_ld_agg); rfl; rfl; rfl; rfl))
             | (((with_reducible apply go_cmp); rfl; rfl; rfl; rfl))
             | (((with_reducible apply go_fn_int); rfl; (exact h1); rfl))
             | (((with_reducible apply go_bx_agg); rfl; rfl; (exact Nat.le_of_ble_eq_true rfl); rfl; rfl))
             | (((with_reducible apply go_alloc); rfl; rfl; rfl)))
           | ((with_reducible (show evOps _ _ _ _ _ _)); first
             | (with_reducible apply go_nil))
           | ((with_reducible (show evG _ _ _ _ _)); first
             | (with_reducible apply go_seq)
             | (with_reducible apply go_region)
             | ((with_reducible apply go_cond_f); rfl; rfl)
             | (with_reducible apply go_skipc))
           | (with_reducible apply go_kseq)
  all_goals try (exfalso; omega)
  refine go_fn_agf2 (f := encInt) (l := wedL q m m.levels.length 0) (cs := encF5 m) (q := 5) (args' := [.agg (encGrid m)]) rfl h2 hF rfl rfl rfl rfl rfl rfl ?_
  repeat' first
           | (with_reducible apply go_op)
           | (with_reducible apply go_next)
           | ((with_reducible (show evOp _ _ _ _ _ _)); first
             | ((with_reducible (show evOp _ (.move _) _ _ _ _)) ; first | ((with_reducible apply go_mv_int); rfl; rfl) | ((with_reducible apply go_mv_tup); rfl; rfl))
             | ((with_reducible apply go_as))
             | (((with_reducible apply go_load_own); rfl; rfl; rfl; rfl))
             | (((with_reducible apply go_fieldAddr_own); rfl; rfl; rfl))
             | (((with_reducible apply go_cmp); rfl; rfl; rfl; rfl))
             | (((with_reducible apply go_len_own); rfl; rfl; rfl))
             | (((with_reducible apply go_st_agg); rfl; rfl; rfl; rfl; rfl; rfl; rfl))
             | (((with_reducible apply go_extract); rfl; rfl))
             | (((with_reducible apply go_alloc); rfl; rfl; rfl)))
           | ((with_reducible (show evOps _ _ _ _ _ _)); first
             | (with_reducible apply go_nil))
           | ((with_reducible (show evG _ _ _ _ _)); first
             | (with_reducible apply go_seq)
             | (with_reducible apply go_region)
             | ((with_reducible apply go_cond_f); rfl; rfl)
             | (with_reducible apply go_skipc)
             | (with_reducible apply go_block))
           | (with_reducible apply go_kseq)
  simp only [wed_len]
  refine go_count m.levels.length (fun i => ⟨[(30, .int .i64 i), (29, .int .i64 m.levels.length), (28, .os 4 0 m.levels.length), (2, .op 0 0 0), (3, .op 1 0 0), (4, .op 2 0 0), (7, .op 3 0 0)], [(0, ⟨7, true, [encQuay q]⟩), (1, ⟨6, true, [encGrid m]⟩), (2, ⟨6, false, [[.int .i64 0, .int .i64 0, .int .i64 0, .int .i64 0, .int .i64 0, .nilsl]]⟩), (3, ⟨6, false, [encF5 m ++ [.os 4 0 m.levels.length]]⟩), (4, ⟨1, true, (wedL q m m.levels.length i).map encInt⟩)], 32, 49⟩) (fun i => True)
    (entails_eq (nx := 32) (k := 0) (ns := []) (ks := [30, 29, 28, 2, 3, 4, 7]) [(0, 0), (32, 1), (64, 2), (448, 3), (325, 4)] rfl (by simp) (by kernel_rfl)) trivial ?_
  intro i hi _
  by_cases hlt : i < m.levels.length
  · have hle := wed_len (q := q) (m := m) (n := m.levels.length) (i := i)
    have y1 : Contract Try.prog 101 [.agg (encGrid m), .int .i64 i] (.ret (.agg (gP (cenG m i)))) := c101 m hm i hlt h0
    have y2 := c170 q hq (cenG m i) (cen_ok hm hlt)
    repeat' first
           | (with_reducible apply go_op)
           | (with_reducible apply go_next)
           | ((with_reducible (show evOp _ _ _ _ _ _)); first
             | ((with_reducible (show evOp _ (.move _) _ _ _ _)) ; first | ((with_reducible apply go_mv_int); rfl; rfl) | ((with_reducible apply go_mv_bool); rfl; rfl) | ((with_reducible apply go_mv_tup); rfl; rfl))
             | ((with_reducible apply go_as))
             | ((with_reducible (show evOp _ (.load _ _) _ _ _ _)) ; first | ((with_reducible apply go_ld_agg); rfl; rfl; rfl; rfl) | ((with_reducible apply go_load_own); rfl; rfl; rfl; rfl))
             | (((with_reducible apply go_fieldAddr_own); rfl; rfl; rfl))
             | (((with_reducible apply go_index_om); rfl; rfl; rfl; (with_reducible rfl); rfl; rfl; omega; (intro hlt)))
             | ((with_reducible (show evOp _ (.binOp _ _ _ _ _) _ _ _ _)) ; first | ((with_reducible apply go_cmp); rfl; rfl; rfl; rfl) | ((with_reducible apply go_add); rfl; rfl; rfl; omega))
             | ((with_reducible (show evOp _ (.call _) _ _ _ _)) ; first | ((with_reducible apply go_fn_plain); rfl; (exact y1); rfl; (exact Nat.le_of_ble_eq_true rfl); rfl) | ((with_reducible apply go_fn_plain); rfl; (exact y2); rfl; (exact Nat.le_of_ble_eq_true rfl); rfl))
             | (((with_reducible apply go_st_agg); rfl; rfl; rfl; rfl; rfl; rfl; rfl))
             | (((with_reducible apply go_extract); rfl; rfl)))
           | ((with_reducible (show evOps _ _ _ _ _ _)); first
             | (with_reducible apply go_nil)
             | ((with_reducible apply go_pre); rfl)
             | (with_reducible apply go_pre_nil)
             | ((with_reducible apply go_suf); rfl)
             | (with_reducible apply go_suf_nil))
           | ((with_reducible (show evG _ _ _ _ _)); first
             | (with_reducible apply go_seq)
             | (with_reducible apply go_region)
             | (((with_reducible apply go_cond); rfl) <;> (intro h; simp only [h]; try simp only [decide_eq_true_eq, decide_eq_false_iff_not, Bool.not_eq_true', Bool.not_eq_false', Bool.not_true, Bool.not_false] at h; try exact absurd trivial h))
             | ((with_reducible apply go_order); kernel_rfl; rfl)
             | (with_reducible apply go_ret)
             | (with_reducible apply go_skipc)
             | (with_reducible apply go_block)
             | (with_reducible apply go_exit))
           | (with_reducible apply go_kseq)
           | (with_reducible apply go_ksuf)
           | (with_reducible apply go_kblock)
           | (with_reducible apply go_kblock_exit)
           | (with_reducible apply go_kseq_exit)
    · refine go_store_om (f := encInt) (l := wedL q m m.levels.length i) (a := (wedgeE q (cenG m i)).1) rfl rfl rfl (by omega) rfl rfl rfl rfl (Nat.le_refl _) rfl ?_
      rw [wed_yes (n := m.levels.length) (by assumption)]
      repeat' first
           | (with_reducible apply go_op)
           | (with_reducible apply go_next)
           | ((with_reducible (show evOp _ _ _ _ _ _)); first
             | (((with_reducible apply go_mv_int); rfl; rfl))
             | (((with_reducible apply go_add); rfl; rfl; rfl; omega)))
           | ((with_reducible (show evOps _ _ _ _ _ _)); first
             | (with_reducible apply go_nil))
           | ((with_reducible (show evG _ _ _ _ _)); first
             | (with_reducible apply go_region))
           | (with_reducible apply go_kseq)
           | (with_reducible apply go_kblock)
      exact ⟨by omega, trivial, entails_eq (nx := 32) (k := 0) (ns := []) (ks := [30, 29, 28, 2, 3, 4, 7]) [(0, 0), (1, 1), (2, 2), (3, 3), (4, 4)] rfl (by simp) (by kernel_rfl)⟩
    · refine ⟨by omega, trivial, ?_⟩
      rw [wed_no (n := m.levels.length) (by assumption)]
      exact entails_eq (nx := 32) (k := 0) (ns := []) (ks := [30, 29, 28, 2, 3, 4, 7]) [(0, 0), (1, 1), (2, 2), (3, 3), (4, 4)] rfl (by simp) (by kernel_rfl)
    · exfalso; omega
  · have e : i = m.levels.length := by omega
    subst e
    repeat' first
           | (with_reducible apply go_op)
           | (with_reducible apply go_next)
           | ((with_reducible (show evOp _ _ _ _ _ _)); first
             | (((with_reducible apply go_mv_int); rfl; rfl))
             | ((with_reducible apply go_as))
             | (((with_reducible apply go_ld_agg); rfl; rfl; rfl; rfl))
             | (((with_reducible apply go_cmp); rfl; rfl; rfl; rfl))
             | (((with_reducible apply go_st_agg); rfl; rfl; rfl; rfl; rfl; rfl; rfl)))
           | ((with_reducible (show evOps _ _ _ _ _ _)); first
             | (with_reducible apply go_nil)
             | ((with_reducible apply go_pre); rfl))
           | ((with_reducible (show evG _ _ _ _ _)); first
             | (with_reducible apply go_seq)
             | (with_reducible apply go_region)
             | (((with_reducible apply go_cond); rfl) <;> (intro h; simp only [h]; try simp only [decide_eq_true_eq, decide_eq_false_iff_not, Bool.not_eq_true', Bool.not_eq_false', Bool.not_true, Bool.not_false] at h; try exact absurd trivial h))
             | ((with_reducible apply go_order); kernel_rfl; rfl)
             | (with_reducible apply go_ret)
             | (with_reducible apply go_skipc)
             | (with_reducible apply go_block)
             | (with_reducible apply go_exit))
           | (with_reducible apply go_kseq)
           | (with_reducible apply go_kblock_exit)
           | (with_reducible apply go_kseq_exit)
    all_goals first
      | (exfalso; omega)
      | exact finK_ret (fin_agf2 (cs := encF5 m) (len := m.levels.length) rfl rfl (by simp [wed_len]) rfl rfl rfl)
      | trace_state
end Go.Pv.Soil

open Go Go.Proofs Go.Pv
set_option maxHeartbeats 4000000
set_option maxRecDepth 100000
set_option linter.unusedSimpArgs false
set_option linter.unusedVariables false
namespace Go.Pv.Soil
/-- Does a cell undermine a quay, by the wedge's list? -/
noncomputable def undB (q : Quay) (m : Grid) (k : Nat) : Bool := decide (wedV q m k ≠ 30000) && (decide (m.levels.getD k 0 ≠ 30000) && decide (m.levels.getD k 0 < wedV q m k))
noncomputable def undL (q : Quay) (m : Grid) (i : Nat) : List Int := ((List.range i).filter (undB q m)).map fun k : Nat => (k : Int)
theorem und_len (q : Quay) (m : Grid) (i : Nat) : (undL q m i).length ≤ i := by
  have := List.length_filter_le (undB q m) (List.range i)
  simp only [undL, List.length_map, List.length_range] at *; omega
theorem und_yes {q : Quay} {m : Grid} {i : Nat} (h : undB q m i = true) : undL q m i ++ [(i : Int)] = undL q m (i + 1) := by
  simp [undL, List.range_succ, List.filter_append, h]
theorem und_no {q : Quay} {m : Grid} {i : Nat} (h : undB q m i = false) : undL q m i = undL q m (i + 1) := by
  simp [undL, List.range_succ, List.filter_append, h]
end Go.Pv.Soil

open Go Go.Proofs Go.Pv
set_option maxHeartbeats 4000000
set_option maxRecDepth 100000
set_option linter.unusedSimpArgs false
set_option linter.unusedVariables false
namespace Go.Pv.Soil
theorem wed_get {q : Quay} {m : Grid} {n i : Nat} (h : i < (wedL q m n n).length) : (wedL q m n n)[i] = wedV q m i := by
  have hi : i < n := by simpa [wedL] using h
  simp [wedL, hi]
theorem c72 (q : Quay) (hq : quayE q = 0) (m : Grid) (hm : OkGrid m) (h0 : gridE m = 0) (hl : m.levels.length ≤ 1000000000) : Contract Try.prog 72 [.agg (encQuay q), .agg (encGrid m)] (.ret (.tup [.fr 1 ((undL q m m.levels.length).map encInt), .int .i64 0])) := by
  have h1 := c127 q hq m hm h0 hl
  have hF : ScalF encInt 1 := fun _ => ⟨rfl, rfl⟩
  refine contract_of mix Try.func72 rfl rfl (by rw [Try.ntmps72]; exact Nat.le_of_ble_eq_true rfl) ?_; rw [Try.results72, Try.ntmps72]; simp only [argsE, Nat.reduceAdd]
  repeat' first
           | (with_reducible apply go_op)
           | (with_reducible apply go_next)
           | ((with_reducible (show evOp _ _ _ _ _ _)); first
             | ((with_reducible (show evOp _ (.move _) _ _ _ _)) ; first | ((with_reducible apply go_mv_int); rfl; rfl) | ((with_reducible apply go_mv_nilsl); rfl; rfl))
             | ((with_reducible apply go_as))
             | (((with_reducible apply go_ld_agg); rfl; rfl; rfl; rfl))
             | (((with_reducible apply go_bx_agg); rfl; rfl; (exact Nat.le_of_ble_eq_true rfl); rfl; rfl)))
           | ((with_reducible (show evOps _ _ _ _ _ _)); first
             | (with_reducible apply go_nil))
           | ((with_reducible (show evG _ _ _ _ _)); first
             | (with_reducible apply go_seq)
             | (with_reducible apply go_region))
           | (with_reducible apply go_kseq)
  refine go_fn_agf2 (f := encInt) (l := wedL q m m.levels.length m.levels.length) (cs := encF5 m) (q := 5) (args' := [.agg (encQuay q), .agg (encGrid m)]) rfl h1 hF rfl rfl rfl rfl rfl rfl ?_
  repeat' first
           | (with_reducible apply go_op)
           | (with_reducible apply go_next)
           | ((with_reducible (show evOp _ _ _ _ _ _)); first
             | ((with_reducible (show evOp _ (.move _) _ _ _ _)) ; first | ((with_reducible apply go_mv_int); rfl; rfl) | ((with_reducible apply go_mv_nilsl); rfl; rfl) | ((with_reducible apply go_mv_tup); rfl; rfl))
             | ((with_reducible apply go_as))
             | (((with_reducible apply go_load_own); rfl; rfl; rfl; rfl))
             | (((with_reducible apply go_fieldAddr_own); rfl; rfl; rfl))
             | (((with_reducible apply go_cmp); rfl; rfl; rfl; rfl))
             | (((with_reducible apply go_len_own); rfl; rfl; rfl))
             | (((with_reducible apply go_st_agg); rfl; rfl; rfl; rfl; rfl; rfl; rfl))
             | (((with_reducible apply go_extract); rfl; rfl))
             | (((with_reducible apply go_alloc); rfl; rfl; rfl)))
           | ((with_reducible (show evOps _ _ _ _ _ _)); first
             | (with_reducible apply go_nil))
           | ((with_reducible (show evG _ _ _ _ _)); first
             | (with_reducible apply go_seq)
             | (with_reducible apply go_region)
             | ((with_reducible apply go_cond_f); rfl; rfl)
             | (with_reducible apply go_skipc)
             | (with_reducible apply go_block))
           | (with_reducible apply go_kseq)
  all_goals try (exfalso; omega)
  simp only [wed_len]
  have hwl : (wedL q m m.levels.length m.levels.length).length = m.levels.length := wed_len
  have hwg := fun i h => wed_get (q := q) (m := m) (n := m.levels.length) (i := i) h
  clear h1
  generalize wedL q m m.levels.length m.levels.length = W at *
  refine go_count m.levels.length (fun i => ⟨[(8, .os 4 0 (undL q m i).length), (23, .int .i64 i), (22, .int .i64 m.levels.length), (21, .os 3 0 m.levels.length), (2, .op 0 0 0), (3, .op 1 0 0), (6, .op 2 0 0)], [(4, ⟨1, true, (undL q m i).map encInt⟩), (0, ⟨7, true, [encQuay q]⟩), (1, ⟨6, true, [encGrid m]⟩), (2, ⟨6, false, [encF5 m ++ [.os 3 0 m.levels.length]]⟩), (3, ⟨1, true, W.map encInt⟩)], 32, 50⟩) (fun i => True)
    (entails_eq (nx := 32) (k := 1) (ns := [(8, 4)]) (ks := [23, 22, 21, 2, 3, 6]) [(0, 0), (32, 1), (320, 2), (197, 3)] rfl (by intro p hp; obtain rfl : p = (8, 4) := (by simpa using hp); kernel_rfl) (by kernel_rfl)) trivial ?_
  intro i hi _
  by_cases hlt : i < m.levels.length
  · have hle := und_len q m i
    have y1 : Contract Try.prog 104 [.agg (encGrid m), .int .i64 i] (.ret (.bool (!decide (m.levels[i] = 30000)))) := c104 m i hlt
    have hb : undB q m i = (decide (wedV q m i ≠ 30000) && (decide (m.levels[i] ≠ 30000) && decide (m.levels[i] < wedV q m i))) := by
      unfold undB; rw [List.getD_eq_getElem?_getD, List.getElem?_eq_getElem hlt]; rfl
    have hw := hwg i (by omega)
    repeat' first
           | (with_reducible apply go_op)
           | (with_reducible apply go_next)
           | ((with_reducible (show evOp _ _ _ _ _ _)); first
             | ((with_reducible (show evOp _ (.move _) _ _ _ _)) ; first | ((with_reducible apply go_mv_int); rfl; rfl) | ((with_reducible apply go_mv_bool); rfl; rfl) | ((with_reducible apply go_mv_os); rfl; rfl))
             | ((with_reducible apply go_as))
             | ((with_reducible (show evOp _ (.load _ _) _ _ _ _)) ; first | ((with_reducible apply go_load_om); rfl; rfl; rfl; rfl; rotate_left; assumption) | ((with_reducible apply go_ld_agg); rfl; rfl; rfl; rfl) | ((with_reducible apply go_load); rfl; rfl; rfl) | ((with_reducible apply go_load_own); rfl; rfl; rfl; rfl))
             | (((with_reducible apply go_fieldAddr_own); rfl; rfl; rfl))
             | ((with_reducible (show evOp _ (.indexAddr _ _ _) _ _ _ _)) ; first | ((with_reducible apply go_index_nat); rfl; rfl; (with_reducible rfl); (intro; rfl); rfl; omega; (intro hlt)) | ((with_reducible apply go_index_om); rfl; rfl; rfl; (with_reducible rfl); rfl; rfl; omega; (intro hlt)))
             | ((with_reducible (show evOp _ (.binOp _ _ _ _ _) _ _ _ _)) ; first | ((with_reducible apply go_cmp); rfl; rfl; rfl; rfl) | ((with_reducible apply go_add); rfl; rfl; rfl; omega))
             | (((with_reducible apply go_fn_bool); rfl; (exact y1); rfl))
             | (((with_reducible apply go_pick); rfl; rfl; rfl))
             | (((with_reducible apply go_bs1_int); rfl; rfl; rfl)))
           | ((with_reducible (show evOps _ _ _ _ _ _)); first
             | (with_reducible apply go_nil)
             | ((with_reducible apply go_run); rfl; rfl)
             | ((with_reducible apply go_pass); rfl; rfl; rfl)
             | (((with_reducible apply go_guard); rfl) <;> (intro h; simp only [h, Bool.not_true, Bool.not_false]; (try with_reducible (refine ⟨rfl, ?_⟩)); try simp only [decide_eq_true_eq, decide_eq_false_iff_not, Bool.not_eq_true', Bool.not_eq_false', Bool.not_true, Bool.not_false] at h; try exact absurd trivial h)))
           | ((with_reducible (show evG _ _ _ _ _)); first
             | (with_reducible apply go_seq)
             | (with_reducible apply go_region)
             | ((with_reducible apply go_cond_f); rfl; rfl)
             | (((with_reducible apply go_cond); rfl) <;> (intro h; simp only [h]; try simp only [decide_eq_true_eq, decide_eq_false_iff_not, Bool.not_eq_true', Bool.not_eq_false', Bool.not_true, Bool.not_false] at h; try exact absurd trivial h))
             | (with_reducible apply go_ret)
             | (with_reducible apply go_skipc)
             | (with_reducible apply go_block)
             | (with_reducible apply go_exit))
           | (with_reducible apply go_kseq)
           | (with_reducible apply go_kblock)
           | (with_reducible apply go_kblock_exit)
           | (with_reducible apply go_kseq_exit)
    all_goals try (exfalso; omega)
    all_goals try
      (refine go_app_map (f := encInt) (a := (i : Int)) (l := undL q m i) hF rfl rfl rfl rfl rfl rfl (by kernel_rfl) (by kernel_rfl) (by omega) rfl ?_
       repeat' first
           | (with_reducible apply go_op)
           | (with_reducible apply go_next)
           | ((with_reducible (show evOp _ _ _ _ _ _)); first
             | ((with_reducible (show evOp _ (.move _) _ _ _ _)) ; first | ((with_reducible apply go_mv_int); rfl; rfl) | ((with_reducible apply go_mv_os); rfl; rfl))
             | ((with_reducible apply go_as))
             | (((with_reducible apply go_add); rfl; rfl; rfl; omega)))
           | ((with_reducible (show evOps _ _ _ _ _ _)); first
             | (with_reducible apply go_nil))
           | ((with_reducible (show evG _ _ _ _ _)); first
             | (with_reducible apply go_region))
           | (with_reducible apply go_kseq)
           | (with_reducible apply go_kblock))
    all_goals first
      | (have hsel : undB q m i = true := by
           rw [hb]; simp only [Bool.and_eq_true, decide_eq_true_eq]; omega
         have e := und_yes hsel
         have el : (undL q m i).length + 1 = (undL q m (i + 1)).length := by rw [← e]; simp
         refine ⟨by omega, trivial, ?_⟩
         rw [show ((i : Nat) : Int) = (i : Int) from rfl, e, el]
         exact entails_eq (nx := 32) (k := 1) (ns := []) (ks := [8, 23, 22, 21, 2, 3, 6]) [(4, 4), (0, 0), (1, 1), (2, 2), (3, 3)] rfl (by simp) (by kernel_rfl))
      | (have hsel : undB q m i = false := by
           rw [hb, ← hw]; simp only [Bool.and_eq_false_iff, decide_eq_false_iff_not, ne_eq]; omega
         refine ⟨by omega, trivial, ?_⟩
         rw [← und_no hsel]
         exact entails_eq (nx := 32) (k := 1) (ns := []) (ks := [8, 23, 22, 21, 2, 3, 6]) [(4, 4), (0, 0), (1, 1), (2, 2), (3, 3)] rfl (by simp) (by kernel_rfl))
      | trace_state
  · have e : i = m.levels.length := by omega
    subst e
    repeat' first
           | (with_reducible apply go_op)
           | (with_reducible apply go_next)
           | ((with_reducible (show evOp _ _ _ _ _ _)); first
             | ((with_reducible (show evOp _ (.move _) _ _ _ _)) ; first | ((with_reducible apply go_mv_int); rfl; rfl) | ((with_reducible apply go_mv_bool); rfl; rfl) | ((with_reducible apply go_mv_os); rfl; rfl))
             | ((with_reducible apply go_as))
             | ((with_reducible (show evOp _ (.load _ _) _ _ _ _)) ; first | ((with_reducible apply go_load_om); rfl; rfl; rfl; rfl; rotate_left; assumption) | ((with_reducible apply go_ld_agg); rfl; rfl; rfl; rfl))
             | (((with_reducible apply go_index_om); rfl; rfl; rfl; (with_reducible rfl); rfl; rfl; omega; (intro hlt)))
             | ((with_reducible (show evOp _ (.binOp _ _ _ _ _) _ _ _ _)) ; first | ((with_reducible apply go_cmp); rfl; rfl; rfl; rfl) | ((with_reducible apply go_add); rfl; rfl; rfl; omega))
             | (((with_reducible apply go_pick); rfl; rfl; rfl)))
           | ((with_reducible (show evOps _ _ _ _ _ _)); first
             | (with_reducible apply go_nil)
             | ((with_reducible apply go_run); rfl; rfl)
             | ((with_reducible apply go_pass); rfl; rfl; rfl)
             | (((with_reducible apply go_guard); rfl) <;> (intro h; simp only [h, Bool.not_true, Bool.not_false]; (try with_reducible (refine ⟨rfl, ?_⟩)); try simp only [decide_eq_true_eq, decide_eq_false_iff_not, Bool.not_eq_true', Bool.not_eq_false', Bool.not_true, Bool.not_false] at h; try exact absurd trivial h)))
           | ((with_reducible (show evG _ _ _ _ _)); first
             | (with_reducible apply go_seq)
             | (with_reducible apply go_region)
             | ((with_reducible apply go_cond_f); rfl; rfl)
             | (((with_reducible apply go_cond); rfl) <;> (intro h; simp only [h]; try simp only [decide_eq_true_eq, decide_eq_false_iff_not, Bool.not_eq_true', Bool.not_eq_false', Bool.not_true, Bool.not_false] at h; try exact absurd trivial h))
             | (with_reducible apply go_ret)
             | (with_reducible apply go_skipc)
             | (with_reducible apply go_block)
             | (with_reducible apply go_exit))
           | (with_reducible apply go_kseq)
           | (with_reducible apply go_kblock)
           | (with_reducible apply go_kblock_exit)
           | (with_reducible apply go_kseq_exit)
    all_goals first
      | (exfalso; omega)
      | exact finK_ret (fin_fr2 rfl (by simp) rfl rfl rfl)
      | trace_state
end Go.Pv.Soil

open Go Go.Proofs Go.Pv
set_option maxHeartbeats 8000000
set_option maxRecDepth 100000
namespace Go.Pv.Soil
theorem c66u : Contract Try.prog 66 [] (.ret (.bool true)) := okB_ok (n := 1000) (k := 20) (by kernel_rfl)
end Go.Pv.Soil

open Go Go.Proofs Go.Pv
set_option maxHeartbeats 2000000
set_option maxRecDepth 100000
set_option linter.unusedSimpArgs false
set_option linter.unusedVariables false
namespace Go.Pv.Soil

theorem c24 (g : Grid) : Contract Try.prog 24 [.agg (encGrid g)] (.ret (.bool (decide (g.levels.length ≤ 30)))) := by
  refine contract_of mix Try.func24 rfl rfl (by rw [Try.ntmps24]; exact Nat.le_of_ble_eq_true rfl) ?_; rw [Try.results24, Try.ntmps24]; simp only [argsE, Nat.reduceAdd]
  repeat' first
           | (with_reducible apply go_op)
           | (with_reducible apply go_next)
           | ((with_reducible (show evOp _ _ _ _ _ _)); first
             | (((with_reducible apply go_mv_bool); rfl; rfl))
             | ((with_reducible apply go_as))
             | (((with_reducible apply go_load_own); rfl; rfl; rfl; rfl))
             | (((with_reducible apply go_fieldAddr_own); rfl; rfl; rfl))
             | (((with_reducible apply go_cmp); rfl; rfl; rfl; rfl))
             | (((with_reducible apply go_len); rfl; rfl))
             | (((with_reducible apply go_bx_agg); rfl; rfl; (exact Nat.le_of_ble_eq_true rfl); rfl; rfl)))
           | ((with_reducible (show evOps _ _ _ _ _ _)); first
             | (with_reducible apply go_nil))
           | ((with_reducible (show evG _ _ _ _ _)); first
             | (with_reducible apply go_seq)
             | (with_reducible apply go_region)
             | (with_reducible apply go_ret))
           | (with_reducible apply go_kseq)
           | ((with_reducible apply end_bool); rfl)
  all_goals first | rfl | exact decide_eq_decide.2 (by omega)

/-- The first number of a list that is not 0, or 0. -/
def firstOf : List Int → Int
  | [] => 0
  | x :: l => if x ≠ 0 then x else firstOf l
theorem firstOf_at : ∀ {l : List Int} {i : Nat} (hi : i < l.length), l[i] ≠ 0 → (∀ j (hj : j < i), l[j] = 0) → firstOf l = l[i]
  | x :: l, 0, _, h, _ => by rw [firstOf, if_pos (by simpa using h)]; rfl
  | x :: l, i + 1, hi, h, hb => by
    rw [firstOf, if_neg (by simpa using hb 0 (by omega))]
    exact firstOf_at (l := l) (by simpa using hi) (by simpa using h) fun j hj => by simpa using hb (j + 1) (by omega)
theorem firstOf_none : ∀ {l : List Int}, (∀ j (hj : j < l.length), l[j] = 0) → firstOf l = 0
  | [], _ => rfl
  | x :: l, hb => by
    have h0 : x = 0 := hb 0 (by simp)
    rw [firstOf, if_neg (by simp [h0])]
    exact firstOf_none fun j hj => hb (j + 1) (by simpa using hj)

theorem c27 (l : List Int) (hl : l.length < 1000000000000) : Contract Try.prog 27 [.sl (l.map encInt)] (.ret (.int .i64 (firstOf l))) := by
  refine contract_of mix Try.func27 rfl rfl (by rw [Try.ntmps27]; exact Nat.le_of_ble_eq_true rfl) ?_; rw [Try.results27, Try.ntmps27]; simp only [argsE, Nat.reduceAdd]
  repeat' first
           | (with_reducible apply go_op)
           | (with_reducible apply go_next)
           | ((with_reducible (show evOp _ _ _ _ _ _)); first
             | (((with_reducible apply go_mv_int); rfl; rfl))
             | ((with_reducible apply go_as)))
           | ((with_reducible (show evOps _ _ _ _ _ _)); first
             | (with_reducible apply go_nil))
           | ((with_reducible (show evG _ _ _ _ _)); first
             | (with_reducible apply go_seq)
             | (with_reducible apply go_region)
             | (with_reducible apply go_block))
           | (with_reducible apply go_kseq)
  refine go_count (l.length) (fun i => ⟨[(3, .int .i64 i), (0, .sl (l.map encInt))], [], 0, 19⟩) (fun i => ∀ j (hj : j < i) (hj' : j < l.length), l[j] = 0) (entails_eq (k := 0) (ns := []) (ks := [3, 0]) [] rfl (by simp) rfl) (by omega) ?_
  intro i hi hC
  repeat' first
           | (with_reducible apply go_op)
           | (with_reducible apply go_next)
           | ((with_reducible (show evOp _ _ _ _ _ _)); first
             | ((with_reducible (show evOp _ (.move _) _ _ _ _)) ; first | ((with_reducible apply go_mv_int); rfl; rfl) | ((with_reducible apply go_mv_sl); rfl; rfl))
             | ((with_reducible apply go_as))
             | (((with_reducible apply go_load); rfl; rfl; rfl))
             | (((with_reducible apply go_index_nat); rfl; rfl; (with_reducible rfl); (intro; rfl); rfl; omega; (intro hlt)))
             | ((with_reducible (show evOp _ (.binOp _ _ _ _ _) _ _ _ _)) ; first | ((with_reducible apply go_cmp); rfl; rfl; rfl; rfl) | ((with_reducible apply go_add); rfl; rfl; rfl; omega))
             | (((with_reducible apply go_len); rfl; rfl)))
           | ((with_reducible (show evOps _ _ _ _ _ _)); first
             | (with_reducible apply go_nil))
           | ((with_reducible (show evG _ _ _ _ _)); first
             | (with_reducible apply go_seq)
             | (with_reducible apply go_region)
             | (((with_reducible apply go_cond); rfl) <;> (intro h; simp only [h]; try simp only [decide_eq_true_eq, decide_eq_false_iff_not, Bool.not_eq_true', Bool.not_eq_false', Bool.not_true, Bool.not_false] at h; try exact absurd trivial h))
             | (with_reducible apply go_ret)
             | (with_reducible apply go_skipc)
             | (with_reducible apply go_block)
             | (with_reducible apply go_exit))
           | (with_reducible apply go_kseq)
           | (with_reducible apply go_kseq_ret)
           | (with_reducible apply go_kblock)
           | (with_reducible apply go_kblock_ret)
           | (with_reducible apply go_kblock_exit)
           | (with_reducible apply go_kseq_exit)
           | ((with_reducible apply end_int); rfl)
  · have h2 : i < l.length := by omega
    exact (firstOf_at h2 h fun j hj => hC j hj (by omega)).symm
  · have h2 : i < l.length := by omega
    refine ⟨h2, fun j hj hj' => ?_, entails_eq (k := 0) (ns := []) (ks := [3, 0]) [] rfl (by simp) rfl⟩
    rcases Nat.lt_succ_iff_lt_or_eq.1 hj with h' | rfl
    · exact hC j h' hj'
    · exact h
  · exact (firstOf_none fun j hj => hC j (by omega) hj).symm

/-- The error of a ground and beds. -/
def griddedE (g : Ground) (l : List Grid) : Int :=
  if groundE g ≠ 0 then groundE g else if firstOf (l.map gridE) ≠ 0 then firstOf (l.map gridE) else match l with
    | a :: b :: _ => if alikeE a b = true then 0 else 10
    | _ => 0

theorem firstOf_map {l : List Grid} {i : Nat} (hi : i < l.length) (h : gridE l[i] ≠ 0) (hb : ∀ j (hj : j < i) (hj' : j < l.length), gridE l[j] = 0) : firstOf (l.map gridE) = gridE l[i] := by
  have := firstOf_at (l := l.map gridE) (i := i) (by simpa using hi) (by simpa using h) fun j hj => by simpa using hb j hj (by omega)
  simpa using this

theorem c93 (g : Ground) (hs : g.soils.length < 1000000000000) (hb : g.borings.length < 1000000000000) (l : List Grid) (hll : l.length < 1000000000000) (hla : ∀ x ∈ l, x.levels.length < 1000000000000) : Contract Try.prog 93 [.agg (encGround g), .sl (l.map encGrid)] (.ret (.int .i64 (griddedE g l))) := by
  refine contract_of mix Try.func93 rfl rfl (by rw [Try.ntmps93]; exact Nat.le_of_ble_eq_true rfl) ?_; rw [Try.results93, Try.ntmps93]; simp only [argsE, Nat.reduceAdd]
  repeat' first
           | (with_reducible apply go_op)
           | (with_reducible apply go_next)
           | ((with_reducible (show evOp _ _ _ _ _ _)); first
             | ((with_reducible (show evOp _ (.move _) _ _ _ _)) ; first | ((with_reducible apply go_mv_int); rfl; rfl) | ((with_reducible apply go_mv_sl); rfl; rfl))
             | ((with_reducible apply go_as))
             | (((with_reducible apply go_ld_agg); rfl; rfl; rfl; rfl))
             | (((with_reducible apply go_cmp); rfl; rfl; rfl; rfl))
             | ((with_reducible (show evOp _ (.call _) _ _ _ _)) ; first | ((with_reducible apply go_len); rfl; rfl) | ((with_reducible apply go_fn_int); rfl; (exact c22 g hs hb); rfl))
             | (((with_reducible apply go_bx_agg); rfl; rfl; (exact Nat.le_of_ble_eq_true rfl); rfl; rfl)))
           | ((with_reducible (show evOps _ _ _ _ _ _)); first
             | (with_reducible apply go_nil))
           | ((with_reducible (show evG _ _ _ _ _)); first
             | (with_reducible apply go_seq)
             | (with_reducible apply go_region)
             | (((with_reducible apply go_cond); rfl) <;> (intro h; simp only [h]; try simp only [decide_eq_true_eq, decide_eq_false_iff_not, Bool.not_eq_true', Bool.not_eq_false', Bool.not_true, Bool.not_false] at h; try exact absurd trivial h))
             | (with_reducible apply go_ret)
             | (with_reducible apply go_skipc)
             | (with_reducible apply go_block))
           | (with_reducible apply go_kseq)
           | (with_reducible apply go_kseq_ret)
           | ((with_reducible apply end_int); rfl)
  · simp [griddedE, h]
  have h0 : groundE g = 0 := by assumption
  refine go_count (l.length) (fun i => ⟨[(16, .int .i64 i), (15, .int .i64 l.length), (14, .sl (l.map encGrid)), (1, .sl (l.map encGrid))], [], 32, 39⟩) (fun i => ∀ j (hj : j < i) (hj' : j < l.length), gridE l[j] = 0) (entails_eq (k := 0) (ns := []) (ks := [16, 15, 14, 1]) [] rfl (by simp) rfl) (by omega) ?_
  intro i hi hC
  repeat' first
           | (with_reducible apply go_op)
           | (with_reducible apply go_next)
           | ((with_reducible (show evOp _ _ _ _ _ _)); first
             | ((with_reducible (show evOp _ (.move _) _ _ _ _)) ; first | ((with_reducible apply go_mv_int); rfl; rfl) | ((with_reducible apply go_mv_bool); rfl; rfl) | ((with_reducible apply go_mv_sl); rfl; rfl))
             | ((with_reducible apply go_as))
             | ((with_reducible (show evOp _ (.load _ _) _ _ _ _)) ; first | ((with_reducible apply go_ld_ptr); rfl; rfl; rfl) | ((with_reducible apply go_ld_agg); rfl; rfl; rfl; rfl))
             | ((with_reducible (show evOp _ (.indexAddr _ _ _) _ _ _ _)) ; first | ((with_reducible apply go_index_nat); rfl; rfl; (with_reducible rfl); (intro; rfl); rfl; omega; (intro hlt)) | ((with_reducible apply go_index); rfl; rfl; (intro; rfl); rfl; omega; intro hlt))
             | ((with_reducible (show evOp _ (.binOp _ _ _ _ _) _ _ _ _)) ; first | ((with_reducible apply go_cmp); rfl; rfl; rfl; rfl) | ((with_reducible apply go_add); rfl; rfl; rfl; omega))
             | ((with_reducible (show evOp _ (.call _) _ _ _ _)) ; first | ((with_reducible apply go_len); rfl; rfl) | ((with_reducible apply go_fn_int); rfl; (exact c144 _ (hla _ (List.getElem_mem _))); rfl) | ((with_reducible apply go_fn_bool); rfl; (exact c145 _ _); rfl))
             | (((with_reducible apply go_st_agg); rfl; rfl; rfl; rfl; rfl; rfl; rfl))
             | (((with_reducible apply go_not); rfl; rfl))
             | (((with_reducible apply go_pick); rfl; rfl; rfl))
             | (((with_reducible apply go_alloc); rfl; rfl; rfl)))
           | ((with_reducible (show evOps _ _ _ _ _ _)); first
             | (with_reducible apply go_nil)
             | ((with_reducible apply go_run); rfl; rfl)
             | ((with_reducible apply go_pass); rfl; rfl; rfl)
             | (((with_reducible apply go_guard); rfl) <;> (intro h; simp only [h, Bool.not_true, Bool.not_false]; (try with_reducible (refine ⟨rfl, ?_⟩)); try simp only [decide_eq_true_eq, decide_eq_false_iff_not, Bool.not_eq_true', Bool.not_eq_false', Bool.not_true, Bool.not_false] at h; try exact absurd trivial h))
             | ((with_reducible apply go_pre); rfl)
             | (with_reducible apply go_pre_nil)
             | ((with_reducible apply go_suf); rfl)
             | (with_reducible apply go_suf_nil))
           | ((with_reducible (show evG _ _ _ _ _)); first
             | (with_reducible apply go_seq)
             | (with_reducible apply go_region)
             | ((with_reducible apply go_cond_f); rfl; rfl)
             | (((with_reducible apply go_cond); rfl) <;> (intro h; simp only [h]; try simp only [decide_eq_true_eq, decide_eq_false_iff_not, Bool.not_eq_true', Bool.not_eq_false', Bool.not_true, Bool.not_false] at h; try exact absurd trivial h))
             | ((with_reducible apply go_order); kernel_rfl; rfl)
             | (with_reducible apply go_ret)
             | (with_reducible apply go_skipc)
             | (with_reducible apply go_block)
             | (with_reducible apply go_exit))
           | (with_reducible apply go_kseq)
           | (with_reducible apply go_ksuf)
           | (with_reducible apply go_kseq_ret)
           | (with_reducible apply go_kblock)
           | (with_reducible apply go_kblock_ret)
           | (with_reducible apply go_kblock_exit)
           | (with_reducible apply go_kseq_exit)
           | ((with_reducible apply end_int); rfl)
  · have h2 : i < l.length := by omega
    have e := firstOf_map h2 h fun j hj hj' => hC j hj hj'
    unfold griddedE
    rw [if_neg (by simp [h0]), if_pos (by rw [e]; exact h), e]
  · have h2 : i < l.length := by omega
    refine ⟨h2, fun j hj hj' => ?_, entails_eq (k := 0) (ns := []) (ks := [16, 15, 14, 1]) [] rfl (by simp) rfl⟩
    rcases Nat.lt_succ_iff_lt_or_eq.1 hj with h' | rfl
    · exact hC j h' hj'
    · exact h
  all_goals
    have e : firstOf (l.map gridE) = 0 := firstOf_none fun j hj => by
      rw [List.getElem_map]; exact hC j (by simp at hj; omega) _
    unfold griddedE
    rw [if_neg (by simp [h0]), if_neg (by simp [e])]
  · obtain ⟨a, b, r, rfl⟩ : ∃ a b r, l = a :: b :: r := by
      match l, hlt with
      | a :: b :: r, _ => exact ⟨a, b, r, rfl⟩
      | [a], h' => exact absurd h' (by simp)
    have h' : alikeE a b = false := h
    simp [h']
  · obtain ⟨a, b, r, rfl⟩ : ∃ a b r, l = a :: b :: r := by
      match l, hlt with
      | a :: b :: r, _ => exact ⟨a, b, r, rfl⟩
      | [a], h' => exact absurd h' (by simp)
    have h' : alikeE a b = true := h
    simp [h']
  · match l, h with
    | [], _ => rfl
    | [a], _ => rfl
    | a :: b :: r, h => exact absurd h (by simp; omega)
end Go.Pv.Soil

open Go Go.Proofs Go.Pv
set_option maxHeartbeats 8000000
set_option maxRecDepth 100000
set_option linter.unusedSimpArgs false
set_option linter.unusedVariables false
namespace Go.Pv.Soil
theorem und_pre (q : Quay) (m : Grid) {i n : Nat} (h : i ≤ n) : ∃ r, undL q m n = undL q m i ++ r := by
  induction n with
  | zero => exact ⟨[], by have : i = 0 := by omega
                          subst this; simp⟩
  | succ n ih =>
    by_cases e : i = n + 1
    · subst e; exact ⟨[], by simp⟩
    · obtain ⟨r, hr⟩ := ih (by omega)
      cases hb : undB q m n
      · exact ⟨r, by rw [← und_no hb, hr]⟩
      · exact ⟨r ++ [(n : Int)], by rw [← und_yes hb, hr, List.append_assoc]⟩
theorem und_at {q : Quay} {m : Grid} {i n : Nat} (h : i < n) (hb : undB q m i = true) : ∃ hl : (undL q m i).length < (undL q m n).length, (undL q m n)[(undL q m i).length] = (i : Int) := by
  obtain ⟨r, hr⟩ := und_pre q m (show i + 1 ≤ n by omega)
  rw [← und_yes hb] at hr
  refine ⟨by rw [hr]; simp, ?_⟩
  simp only [hr]
  rw [List.getElem_append_left (by simp), List.getElem_append_right (by simp)]
  simp
open Classical in
theorem und_iff {q : Quay} (hq : quayE q = 0) (m : Grid) {i : Nat} (hi : i < m.levels.length) (hp : Geo.ptOK (cenG m i) = true) : undB q m i = true ↔ frontE q (cenG m i) ∧ -20000 ≤ wedgeL q (cenG m i) ∧ m.levels[i] ≠ 30000 ∧ m.levels[i] < wedgeL q (cenG m i) := by
  obtain ⟨⟨ka, kb⟩, ⟨kt, kr⟩, hne⟩ := quay_ok hq
  have ho := off_bd ka kb hp
  have ht : -20000 ≤ q.toe ∧ q.toe ≤ 20000 := by simpa [lvOK] using kt
  have hd : 0 ≤ 10 * Geo.offE q.a q.b (cenG m i) / q.run := Int.ediv_nonneg (by omega) (by omega)
  have hw : wedgeL q (cenG m i) ≤ 20000 := by unfold wedgeL; omega
  unfold undB wedV wedgeE
  rw [List.getD_eq_getElem?_getD, List.getElem?_eq_getElem hi]
  simp only [Option.getD_some, Bool.and_eq_true, decide_eq_true_eq]
  by_cases hf : frontE q (cenG m i)
  · rw [if_pos hf]
    by_cases hl : -20000 ≤ wedgeL q (cenG m i)
    · simp only [decide_eq_true hl, if_true, hf, hl, true_and]
      refine ⟨fun h => ⟨h.2.1, h.2.2⟩, fun h => ⟨?_, h.1, h.2⟩⟩
      intro e
      have e : wedgeL q (cenG m i) = 30000 := e
      omega
    · simp [decide_eq_false hl, hl]
  · rw [if_neg hf]; simp [hf]
theorem bad17 (q : Quay) (m : Grid) (hlm : m.levels.length ≤ 9223372036854775807) (h : ¬ (m.levels.length ≤ 30 ∧ q.name.size ≤ 50 ∧ quayE q = 0 ∧ gridE m = 0)) : Contract Try.prog 17 [.agg (encQuay q), .agg (encGrid m)] (.ret (.bool true)) := by
  have h24 := c24 m
  by_cases q1 : m.levels.length ≤ 30
  · rw [decide_eq_true q1] at h24
    have h71 := c71 q
    have h28 := c28 m (by omega)
    generalize quayE q = g1 at *
    generalize gridE m = g2 at *
    refine contract_of mix Try.func17 rfl rfl (by rw [Try.ntmps17]; exact Nat.le_of_ble_eq_true rfl) ?_; rw [Try.results17, Try.ntmps17]; simp only [argsE, Nat.reduceAdd]
    repeat' first
           | (with_reducible apply go_op)
           | (with_reducible apply go_next)
           | ((with_reducible (show evOp _ _ _ _ _ _)); first
             | (((with_reducible apply go_mv_bool); rfl; rfl))
             | ((with_reducible apply go_as))
             | ((with_reducible (show evOp _ (.load _ _) _ _ _ _)) ; first | ((with_reducible apply go_ld_agg); rfl; rfl; rfl; rfl) | ((with_reducible apply go_load_own); rfl; rfl; rfl; rfl))
             | (((with_reducible apply go_fieldAddr_own); rfl; rfl; rfl))
             | (((with_reducible apply go_cmp); rfl; rfl; rfl; rfl))
             | ((with_reducible (show evOp _ (.call _) _ _ _ _)) ; first | ((with_reducible apply go_len_str); rfl; rfl) | ((with_reducible apply go_fn_bool); rfl; (exact c66u); rfl) | ((with_reducible apply go_fn_bool); rfl; (exact h24); rfl) | ((with_reducible apply go_fn_int); rfl; (exact h71); rfl) | ((with_reducible apply go_fn_int); rfl; (exact h28); rfl))
             | (((with_reducible apply go_not); rfl; rfl))
             | (((with_reducible apply go_pick); rfl; rfl; rfl))
             | (((with_reducible apply go_bx_agg); rfl; rfl; (exact Nat.le_of_ble_eq_true rfl); rfl; rfl)))
           | ((with_reducible (show evOps _ _ _ _ _ _)); first
             | (with_reducible apply go_nil)
             | ((with_reducible apply go_run); rfl; rfl)
             | ((with_reducible apply go_pass); rfl; rfl; rfl)
             | (((with_reducible apply go_guard); rfl) <;> (intro h; simp only [h, Bool.not_true, Bool.not_false]; (try with_reducible (refine ⟨rfl, ?_⟩)); try simp only [decide_eq_true_eq, decide_eq_false_iff_not, Bool.not_eq_true', Bool.not_eq_false', Bool.not_true, Bool.not_false] at h; try exact absurd trivial h)))
           | ((with_reducible (show evG _ _ _ _ _)); first
             | (with_reducible apply go_seq)
             | (with_reducible apply go_region)
             | ((with_reducible apply go_cond_t); rfl; rfl)
             | ((with_reducible apply go_cond_f); rfl; rfl)
             | (((with_reducible apply go_cond); rfl) <;> (intro h; simp only [h]; try simp only [decide_eq_true_eq, decide_eq_false_iff_not, Bool.not_eq_true', Bool.not_eq_false', Bool.not_true, Bool.not_false] at h; try exact absurd trivial h))
             | (with_reducible apply go_ret)
             | (with_reducible apply go_skipc))
           | (with_reducible apply go_kseq)
           | (with_reducible apply go_kseq_ret)
           | ((with_reducible apply end_bool); rfl)
           | (with_reducible rfl)
    all_goals (exfalso; omega)
  · rw [decide_eq_false q1] at h24
    refine contract_of mix Try.func17 rfl rfl (by rw [Try.ntmps17]; exact Nat.le_of_ble_eq_true rfl) ?_; rw [Try.results17, Try.ntmps17]; simp only [argsE, Nat.reduceAdd]
    repeat' first
           | (with_reducible apply go_op)
           | (with_reducible apply go_next)
           | ((with_reducible (show evOp _ _ _ _ _ _)); first
             | (((with_reducible apply go_mv_bool); rfl; rfl))
             | ((with_reducible apply go_as))
             | (((with_reducible apply go_ld_agg); rfl; rfl; rfl; rfl))
             | ((with_reducible (show evOp _ (.call _) _ _ _ _)) ; first | ((with_reducible apply go_fn_bool); rfl; (exact c66u); rfl) | ((with_reducible apply go_fn_bool); rfl; (exact h24); rfl))
             | (((with_reducible apply go_not); rfl; rfl))
             | (((with_reducible apply go_pick); rfl; rfl; rfl))
             | (((with_reducible apply go_bx_agg); rfl; rfl; (exact Nat.le_of_ble_eq_true rfl); rfl; rfl)))
           | ((with_reducible (show evOps _ _ _ _ _ _)); first
             | (with_reducible apply go_nil)
             | ((with_reducible apply go_pass); rfl; rfl; rfl))
           | ((with_reducible (show evG _ _ _ _ _)); first
             | (with_reducible apply go_seq)
             | (with_reducible apply go_region)
             | ((with_reducible apply go_cond_t); rfl; rfl)
             | ((with_reducible apply go_cond_f); rfl; rfl)
             | (with_reducible apply go_ret)
             | (with_reducible apply go_skipc))
           | (with_reducible apply go_kseq)
           | (with_reducible apply go_kseq_ret)
           | ((with_reducible apply end_bool); rfl)
           | (with_reducible rfl)
theorem c17 (q : Quay) (m : Grid) (hlm : m.levels.length ≤ 9223372036854775807) : Contract Try.prog 17 [.agg (encQuay q), .agg (encGrid m)] (.ret (.bool true)) := by
  by_cases hh : m.levels.length ≤ 30 ∧ q.name.size ≤ 50 ∧ quayE q = 0 ∧ gridE m = 0
  rotate_left
  · exact bad17 q m hlm hh
  obtain ⟨hs, hnm, hq, h0⟩ := hh
  have hm := okGrid h0
  have h24 := c24 m
  rw [decide_eq_true hs] at h24
  have h71 := c71 q
  rw [hq] at h71
  have h28 := c28 m (by omega)
  rw [h0] at h28
  have h72 := c72 q hq m hm h0 (by omega)
  obtain ⟨⟨ka, kb⟩, ⟨kt, kr⟩, hne⟩ := quay_ok hq
  have x4 : Contract Try.prog 73 [.agg (gP q.a), .agg (gP q.b)] (.ret (.int .i64 (Geo.spanE (Geo.sqE q.a q.b)))) := by
    have := Geo.c_Span q.a q.b
    rw [show Geo.spanX q.a q.b = Geo.spanE (Geo.sqE q.a q.b) by unfold Geo.spanX; simp [ka, kb]] at this
    exact this
  have hF : ScalF encInt 1 := fun _ => ⟨rfl, rfl⟩
  unfold gP at x4
  refine contract_of mix Try.func17 rfl rfl (by rw [Try.ntmps17]; exact Nat.le_of_ble_eq_true rfl) ?_; rw [Try.results17, Try.ntmps17]; simp only [argsE, Nat.reduceAdd]
  repeat' first
           | (with_reducible apply go_op)
           | (with_reducible apply go_next)
           | ((with_reducible (show evOp _ _ _ _ _ _)); first
             | ((with_reducible (show evOp _ (.move _) _ _ _ _)) ; first | ((with_reducible apply go_mv_int); rfl; rfl) | ((with_reducible apply go_mv_bool); rfl; rfl) | ((with_reducible apply go_mv_os); rfl; rfl) | ((with_reducible apply go_mv_tup); rfl; rfl))
             | ((with_reducible apply go_as))
             | ((with_reducible (show evOp _ (.load _ _) _ _ _ _)) ; first | ((with_reducible apply go_ld_agg); rfl; rfl; rfl; rfl) | ((with_reducible apply go_load_own); rfl; rfl; rfl; rfl))
             | (((with_reducible apply go_fieldAddr_own); rfl; rfl; rfl))
             | (((with_reducible apply go_cmp); rfl; rfl; rfl; rfl))
             | ((with_reducible (show evOp _ (.call _) _ _ _ _)) ; first | ((with_reducible apply go_len_str); rfl; rfl) | ((with_reducible apply go_fn_bool); rfl; (exact c66u); rfl) | ((with_reducible apply go_fn_bool); rfl; (exact h24); rfl) | ((with_reducible apply go_fn_int); rfl; (exact h71); rfl) | ((with_reducible apply go_fn_int); rfl; (exact h28); rfl) | ((with_reducible apply go_fn_fr2); rfl; (exact h72); (exact hF); rfl; rfl) | ((with_reducible apply go_fn_int); rfl; (exact x4); rfl))
             | (((with_reducible apply go_not); rfl; rfl))
             | (((with_reducible apply go_extract); rfl; rfl))
             | (((with_reducible apply go_pick); rfl; rfl; rfl))
             | (((with_reducible apply go_bx_agg); rfl; rfl; (exact Nat.le_of_ble_eq_true rfl); rfl; rfl)))
           | ((with_reducible (show evOps _ _ _ _ _ _)); first
             | (with_reducible apply go_nil)
             | ((with_reducible apply go_run); rfl; rfl)
             | ((with_reducible apply go_pass); rfl; rfl; rfl)
             | (((with_reducible apply go_guard); rfl) <;> (intro h; simp only [h, Bool.not_true, Bool.not_false]; (try with_reducible (refine ⟨rfl, ?_⟩)); try simp only [decide_eq_true_eq, decide_eq_false_iff_not, Bool.not_eq_true', Bool.not_eq_false', Bool.not_true, Bool.not_false] at h; try exact absurd trivial h)))
           | ((with_reducible (show evG _ _ _ _ _)); first
             | (with_reducible apply go_seq)
             | (with_reducible apply go_region)
             | ((with_reducible apply go_cond_t); rfl; rfl)
             | ((with_reducible apply go_cond_f); rfl; rfl)
             | (with_reducible apply go_ret)
             | (with_reducible apply go_skipc)
             | (with_reducible apply go_block))
           | (with_reducible apply go_kseq)
           | (with_reducible apply go_kseq_ret)
           | ((with_reducible apply end_bool); rfl)
           | (with_reducible rfl)
  all_goals try (exfalso; omega)
  refine go_count m.levels.length (fun i => ⟨[(9, .int .i64 i), (8, .int .i64 (undL q m i).length), (7, .int .i64 (Geo.spanE (Geo.sqE q.a q.b))), (5, .os 2 0 (undL q m m.levels.length).length), (2, .op 0 0 0), (3, .op 1 0 0)], [(0, ⟨7, true, [encQuay q]⟩), (1, ⟨6, true, [encGrid m]⟩), (2, ⟨1, true, (undL q m m.levels.length).map encInt⟩)], 32, 157⟩) (fun i => True)
    (entails_eq (nx := 32) (k := 0) (ns := []) (ks := [9, 8, 7, 5, 2, 3]) [(0, 0), (32, 1), (832, 2)] rfl (by simp) (by kernel_rfl)) trivial ?_
  intro i hi _
  by_cases hlt : i < m.levels.length
  · have hp := cen_ok hm hlt
    have y0 : Contract Try.prog 74 [.agg (encGrid m), .int .i64 i] (.ret (.tup [.agg (gP (cenG m i)), .int .i64 0])) := c74 m hm i hlt h0
    have hl : Geo.lineE q.a q.b (cenG m i) = 0 := by unfold Geo.lineE; simp [ka, kb, hp, hne]
    have x1 : Contract Try.prog 75 [.agg (gP q.a), .agg (gP q.b), .agg (gP (cenG m i))] (.ret (.tup [.int .i64 (Geo.alongE q.a q.b (cenG m i)), .int .i64 0])) := by
      have := Geo.c_Along q.a q.b (cenG m i)
      rw [Geo.alongX, if_pos hl, hl] at this
      exact this
    have x2 : Contract Try.prog 76 [.agg (gP q.a), .agg (gP q.b), .agg (gP (cenG m i))] (.ret (.tup [.int .i64 (Geo.offE q.a q.b (cenG m i)), .int .i64 0])) := by
      have := Geo.c_Offset q.a q.b (cenG m i)
      rw [Geo.offX, if_pos hl, hl] at this
      exact this
    have x3 : Contract Try.prog 77 [.agg (gP q.a), .agg (gP q.b), .agg (gP (cenG m i))] (.ret (.int .i64 (Geo.signE (Geo.crossE q.a q.b (cenG m i))))) := Geo.c_rorient q.a q.b (cenG m i) ka kb hp
    have ho := off_bd ka kb hp
    have ht : -20000 ≤ q.toe ∧ q.toe ≤ 20000 := by simpa [lvOK] using kt
    have hd : 0 ≤ 10 * Geo.offE q.a q.b (cenG m i) / q.run := Int.ediv_nonneg (by omega) (by omega)
    have hd2 : 10 * Geo.offE q.a q.b (cenG m i) / q.run ≤ 80000000000000 := Int.le_trans (Int.ediv_le_self _ (by omega)) (by omega)
    have hsg : 0 ≤ Geo.signE (Geo.crossE q.a q.b (cenG m i)) ↔ 0 ≤ Geo.crossE q.a q.b (cenG m i) := by unfold Geo.signE; (repeat' split) <;> omega
    have hx := und_iff hq m hlt hp
    unfold frontE wedgeL at hx
    have hlen := und_len q m i
    have hat := fun hb => und_at (q := q) (m := m) hlt hb
    have hyes := fun hb => und_yes (q := q) (m := m) (i := i) hb
    have hno := fun hb => und_no (q := q) (m := m) (i := i) hb
    have hxn : ¬ undB q m i = true → undB q m i = false := by simp
    unfold gP at y0 x1 x2 x3
    generalize Geo.alongE q.a q.b (cenG m i) = A at *
    generalize Geo.offE q.a q.b (cenG m i) = O at *
    generalize Geo.signE (Geo.crossE q.a q.b (cenG m i)) = G at *
    generalize Geo.crossE q.a q.b (cenG m i) = C at *
    generalize Geo.spanE (Geo.sqE q.a q.b) = T at *
    generalize cenG m i = cc at *
    generalize undB q m i = ub at *
    repeat' first
           | (with_reducible apply go_op)
           | (with_reducible apply go_next)
           | ((with_reducible (show evOp _ _ _ _ _ _)); first
             | ((with_reducible (show evOp _ (.move _) _ _ _ _)) ; first | ((with_reducible apply go_mv_int); rfl; rfl) | ((with_reducible apply go_mv_bool); rfl; rfl) | ((with_reducible apply go_mv_os); rfl; rfl) | ((with_reducible apply go_mv_tup); rfl; rfl))
             | ((with_reducible apply go_as))
             | ((with_reducible (show evOp _ (.load _ _) _ _ _ _)) ; first | ((with_reducible apply go_load_om); rfl; rfl; rfl; rfl; rotate_left; assumption) | ((with_reducible apply go_ld_agg); rfl; rfl; rfl; rfl) | ((with_reducible apply go_load); rfl; rfl; rfl) | ((with_reducible apply go_load_own); rfl; rfl; rfl; rfl))
             | (((with_reducible apply go_fieldAddr_own); rfl; rfl; rfl))
             | ((with_reducible (show evOp _ (.indexAddr _ _ _) _ _ _ _)) ; first | ((with_reducible apply go_index_nat); rfl; rfl; (with_reducible rfl); (intro; rfl); rfl; omega; (intro hlt)) | ((with_reducible apply go_index_om); rfl; rfl; rfl; (with_reducible rfl); rfl; rfl; omega; (intro hlt)))
             | ((with_reducible (show evOp _ (.binOp _ _ _ _ _) _ _ _ _)) ; first | ((with_reducible apply go_cmp); rfl; rfl; rfl; rfl) | ((with_reducible apply go_add); rfl; rfl; rfl; omega) | ((with_reducible apply go_sub); rfl; rfl; rfl; omega) | ((with_reducible apply go_mul); rfl; rfl; rfl; omega) | ((with_reducible apply go_quo_pos); rfl; rfl; rfl; omega))
             | ((with_reducible (show evOp _ (.call _) _ _ _ _)) ; first | ((with_reducible apply go_len); rfl; rfl) | ((with_reducible apply go_len_own); rfl; rfl; rfl) | ((with_reducible apply go_fn_plain); rfl; (exact y0); rfl; (exact Nat.le_of_ble_eq_true rfl); rfl) | ((with_reducible apply go_fn_plain); rfl; (exact x1); rfl; (exact Nat.le_of_ble_eq_true rfl); rfl) | ((with_reducible apply go_fn_plain); rfl; (exact x2); rfl; (exact Nat.le_of_ble_eq_true rfl); rfl) | ((with_reducible apply go_fn_int); rfl; (exact x3); rfl))
             | (((with_reducible apply go_st_agg); rfl; rfl; rfl; rfl; rfl; rfl; rfl))
             | (((with_reducible apply go_extract); rfl; rfl))
             | (((with_reducible apply go_pick); rfl; rfl; rfl))
             | (((with_reducible apply go_alloc); rfl; rfl; rfl)))
           | ((with_reducible (show evOps _ _ _ _ _ _)); first
             | (with_reducible apply go_nil)
             | ((with_reducible apply go_run); rfl; rfl)
             | ((with_reducible apply go_pass); rfl; rfl; rfl)
             | (((with_reducible apply go_guard); rfl) <;> (intro h; simp only [h, Bool.not_true, Bool.not_false]; (try with_reducible (refine ⟨rfl, ?_⟩)); try simp only [decide_eq_true_eq, decide_eq_false_iff_not, Bool.not_eq_true', Bool.not_eq_false', Bool.not_true, Bool.not_false] at h; try exact absurd trivial h))
             | ((with_reducible apply go_pre); rfl)
             | (with_reducible apply go_pre_nil)
             | ((with_reducible apply go_suf); rfl)
             | (with_reducible apply go_suf_nil))
           | ((with_reducible (show evG _ _ _ _ _)); first
             | (with_reducible apply go_seq)
             | (with_reducible apply go_region)
             | ((with_reducible apply go_cond_t); rfl; rfl)
             | ((with_reducible apply go_cond_f); rfl; rfl)
             | (((with_reducible apply go_cond); rfl) <;> (intro h; simp only [h]; try simp only [decide_eq_true_eq, decide_eq_false_iff_not, Bool.not_eq_true', Bool.not_eq_false', Bool.not_true, Bool.not_false] at h; try exact absurd trivial h))
             | ((with_reducible apply go_order); kernel_rfl; rfl)
             | (with_reducible apply go_ret)
             | (with_reducible apply go_skipc)
             | (with_reducible apply go_block)
             | (with_reducible apply go_exit))
           | (with_reducible apply go_kseq)
           | (with_reducible apply go_ksuf)
           | (with_reducible apply go_kseq_ret)
           | (with_reducible apply go_kblock)
           | (with_reducible apply go_kblock_ret)
           | (with_reducible apply go_kblock_exit)
           | (with_reducible apply go_kseq_exit)
           | ((with_reducible apply end_bool); rfl)
    all_goals try (exfalso; omega)
    all_goals first
      | (exfalso
         obtain ⟨z1, z2⟩ := hat (hx.2 (by omega))
         first | omega | exact absurd z2 (by assumption))
      | (have hu := hx.2 (by omega)
         have e := hyes hu
         have el : (undL q m (i + 1)).length = (undL q m i).length + 1 := by rw [← e]; simp
         refine ⟨by omega, trivial, ?_⟩
         rw [el]
         exact entails_eq (nx := 32) (k := 0) (ns := []) (ks := [9, 8, 7, 5, 2, 3]) [(0, 0), (1, 1), (2, 2)] rfl (by simp) (by kernel_rfl))
      | (have hn := hno (hxn (fun hu => by have := hx.1 hu; omega))
         refine ⟨by omega, trivial, ?_⟩
         rw [← hn]
         exact entails_eq (nx := 32) (k := 0) (ns := []) (ks := [9, 8, 7, 5, 2, 3]) [(0, 0), (1, 1), (2, 2)] rfl (by simp) (by kernel_rfl))
      | trace_state
  · have e : i = m.levels.length := by omega
    subst e
    repeat' first
           | (with_reducible apply go_op)
           | (with_reducible apply go_next)
           | ((with_reducible (show evOp _ _ _ _ _ _)); first
             | ((with_reducible (show evOp _ (.move _) _ _ _ _)) ; first | ((with_reducible apply go_mv_int); rfl; rfl) | ((with_reducible apply go_mv_bool); rfl; rfl) | ((with_reducible apply go_mv_os); rfl; rfl))
             | ((with_reducible apply go_as))
             | ((with_reducible (show evOp _ (.load _ _) _ _ _ _)) ; first | ((with_reducible apply go_ld_agg); rfl; rfl; rfl; rfl) | ((with_reducible apply go_load_own); rfl; rfl; rfl; rfl))
             | (((with_reducible apply go_fieldAddr_own); rfl; rfl; rfl))
             | (((with_reducible apply go_cmp); rfl; rfl; rfl; rfl))
             | ((with_reducible (show evOp _ (.call _) _ _ _ _)) ; first | ((with_reducible apply go_len); rfl; rfl) | ((with_reducible apply go_len_own); rfl; rfl; rfl)))
           | ((with_reducible (show evOps _ _ _ _ _ _)); first
             | (with_reducible apply go_nil))
           | ((with_reducible (show evG _ _ _ _ _)); first
             | (with_reducible apply go_seq)
             | (with_reducible apply go_region)
             | (((with_reducible apply go_cond); rfl) <;> (intro h; simp only [h]; try simp only [decide_eq_true_eq, decide_eq_false_iff_not, Bool.not_eq_true', Bool.not_eq_false', Bool.not_true, Bool.not_false] at h; try exact absurd trivial h))
             | (with_reducible apply go_ret)
             | (with_reducible apply go_skipc)
             | (with_reducible apply go_block)
             | (with_reducible apply go_exit))
           | (with_reducible apply go_kseq)
           | (with_reducible apply go_kblock_exit)
           | (with_reducible apply go_kseq_exit)
           | ((with_reducible apply end_bool); rfl)
    all_goals first
      | (exfalso; omega)
      | (simp; done)
      | trace_state
end Go.Pv.Soil

open Go Go.Proofs Go.Pv
set_option maxHeartbeats 1000000
set_option maxRecDepth 100000
set_option linter.unusedVariables false
namespace Go.Pv.Soil

theorem own : ownKnob Try.prog.godebug = none := by kernel_rfl
theorem laidOut : laidOutB Try.prog = true := by kernel_rfl

def okFrac (x : Int × Int) : Prop := I64 x.1 ∧ I64 x.2
def okSoil (s : Soil) : Prop := s.name.size ≤ maxLen ∧ I64 s.a ∧ I64 s.b ∧ I64 s.r ∧ I64 s.h
def okLayer (l : Layer) : Prop := I64 l.top ∧ l.soil.size ≤ maxLen
def okBor (b : Boring) : Prop := b.name.size ≤ maxLen ∧ I64 b.x ∧ I64 b.y ∧ b.layers.length ≤ maxLen ∧ ∀ l ∈ b.layers, okLayer l
def okGround (g : Ground) : Prop := (g.soils.length ≤ maxLen ∧ ∀ s ∈ g.soils, okSoil s) ∧ g.borings.length ≤ maxLen ∧ ∀ b ∈ g.borings, okBor b

theorem rInt : Reads Try.prog 3 I64 (fun n => [.int .i64 n]) := reads_i64 Try.underlying3 (by kernel_rfl)
theorem rStr : Reads Try.prog 9 (fun s : ByteArray => s.size ≤ maxLen) (fun s => [.str s]) := reads_str Try.underlying9 (by kernel_rfl)
theorem rSoil : Reads Try.prog 49 okSoil encSoil :=
  (reads_struct Try.underlying49 (by kernel_rfl) (readsF_cons (k := 1) rStr (by kernel_rfl) rfl (readsF_cons (k := 1) rInt (by kernel_rfl) rfl (readsF_cons (k := 1) rInt (by kernel_rfl) rfl
    (readsF_cons (k := 2) (reads_struct Try.underlying47 (by kernel_rfl) (readsF_cons (k := 1) rInt (by kernel_rfl) rfl (readsF_cons (k := 1) rInt (by kernel_rfl) rfl readsF_nil))) (by kernel_rfl) rfl readsF_nil))))).map
    (fun x => ⟨x.1, x.2.1, x.2.2.1, x.2.2.2.1.1, x.2.2.2.1.2.1⟩) (fun _ _ => rfl) (fun _ h => ⟨h.1, h.2.1, h.2.2.1, h.2.2.2.1.1, h.2.2.2.1.2.1⟩) fun _ _ => by kernel_rfl
theorem rSoils : Reads Try.prog 22 (fun l : List Soil => l.length ≤ maxLen ∧ ∀ a ∈ l, okSoil a) (fun l => [.sl (l.map encSoil)]) := reads_slice Try.underlying22 rSoil (k := 5) (by kernel_rfl) (by decide) (by kernel_rfl)
theorem rLayer : Reads Try.prog 142 okLayer encLayer :=
  (reads_struct Try.underlying142 (by kernel_rfl) (readsF_cons (k := 1) rInt (by kernel_rfl) rfl (readsF_cons (k := 1) rStr (by kernel_rfl) rfl readsF_nil))).map
    (fun x => ⟨x.1, x.2.1⟩) (fun _ _ => rfl) (fun _ h => ⟨h.1, h.2.1⟩) fun _ _ => by kernel_rfl
theorem rLayers : Reads Try.prog 138 (fun l : List Layer => l.length ≤ maxLen ∧ ∀ a ∈ l, okLayer a) (fun l => [.sl (l.map encLayer)]) := reads_slice Try.underlying138 rLayer (k := 2) (by kernel_rfl) (by decide) (by kernel_rfl)
theorem rBor : Reads Try.prog 140 okBor encBor :=
  (reads_struct Try.underlying140 (by kernel_rfl) (readsF_cons (k := 1) rStr (by kernel_rfl) rfl (readsF_cons (k := 1) rInt (by kernel_rfl) rfl (readsF_cons (k := 1) rInt (by kernel_rfl) rfl (readsF_cons (k := 1) rLayers (by kernel_rfl) rfl readsF_nil))))).map
    (fun x => ⟨x.1, x.2.1, x.2.2.1, x.2.2.2.1⟩) (fun _ _ => rfl) (fun _ h => ⟨h.1, h.2.1, h.2.2.1, h.2.2.2.1.1, h.2.2.2.1.2⟩) fun _ _ => by kernel_rfl
theorem rBors : Reads Try.prog 23 (fun l : List Boring => l.length ≤ maxLen ∧ ∀ a ∈ l, okBor a) (fun l => [.sl (l.map encBor)]) := reads_slice Try.underlying23 rBor (k := 4) (by kernel_rfl) (by decide) (by kernel_rfl)
theorem rGround : Reads Try.prog 25 okGround encGround :=
  (reads_struct Try.underlying25 (by kernel_rfl) (readsF_cons (k := 1) rSoils (by kernel_rfl) rfl (readsF_cons (k := 1) rBors (by kernel_rfl) rfl readsF_nil))).map
    (fun x => ⟨x.1, x.2.1⟩) (fun _ _ => rfl) (fun _ h => ⟨h.1, h.2.1.1, h.2.1.2⟩) fun _ _ => by kernel_rfl

theorem aGround : ReadsA Try.prog [25] okGround (fun g => [.agg (encGround g)]) :=
  (readsA_cons Try.underlying25 rGround (g := fun g => .agg (encGround g)) (.inr ⟨rfl, fun _ => rfl⟩) readsA_nil).map (fun x => x.1) (fun _ _ => rfl) (fun _ h => h.1)

theorem aSoilII : ReadsA Try.prog [49, 3, 3] (fun x : Soil × Int × Int => okSoil x.1 ∧ I64 x.2.1 ∧ I64 x.2.2) (fun x => [.agg (encSoil x.1), .int .i64 x.2.1, .int .i64 x.2.2]) :=
  (readsA_cons Try.underlying49 rSoil (g := fun s => .agg (encSoil s)) (.inr ⟨rfl, fun _ => rfl⟩) (readsA_cons Try.underlying3 rInt (g := fun n => .int .i64 n) (.inl ⟨rfl, fun _ => rfl⟩)
    (readsA_cons Try.underlying3 rInt (g := fun n => .int .i64 n) (.inl ⟨rfl, fun _ => rfl⟩) readsA_nil))).map (fun x => (x.1, x.2.1, x.2.2.1)) (fun _ _ => rfl) (fun _ h => ⟨h.1, h.2.1, h.2.2.1⟩)

theorem rPt : Reads Try.prog 62 (fun p : Pt => I64 p.x ∧ I64 p.y) encPt :=
  (reads_struct Try.underlying62 (by kernel_rfl) (readsF_cons (k := 1) rInt (by kernel_rfl) rfl (readsF_cons (k := 1) rInt (by kernel_rfl) rfl readsF_nil))).map
    (fun x => ⟨x.1, x.2.1⟩) (fun _ _ => rfl) (fun _ h => ⟨h.1, h.2.1⟩) fun _ _ => by kernel_rfl
theorem rAt2 : Reads Try.prog 73 (fun x : Int × Int => I64 x.1 ∧ I64 x.2) (fun x => [.int .i64 x.1, .int .i64 x.2]) :=
  (reads_array (n := 2) (k := 1) Try.underlying73 rInt (by kernel_rfl) (by kernel_rfl)).map (fun l => (l.getD 0 0, l.getD 1 0))
    (fun l h => by match l, h.1 with | [a, b], _ => rfl) (fun l h => by match l, h with | [a, b], h => exact ⟨h.2 a (by simp), h.2 b (by simp)⟩) fun _ _ => by kernel_rfl
theorem rAt3 : Reads Try.prog 63 (fun x : Int × Int × Int => I64 x.1 ∧ I64 x.2.1 ∧ I64 x.2.2) (fun x => [.int .i64 x.1, .int .i64 x.2.1, .int .i64 x.2.2]) :=
  (reads_array (n := 3) (k := 1) Try.underlying63 rInt (by kernel_rfl) (by kernel_rfl)).map (fun l => (l.getD 0 0, l.getD 1 0, l.getD 2 0))
    (fun l h => by match l, h.1 with | [a, b, c], _ => rfl) (fun l h => by match l, h with | [a, b, c], h => exact ⟨h.2 a (by simp), h.2 b (by simp), h.2 c (by simp)⟩) fun _ _ => by kernel_rfl
theorem aPlaces : ReadsA Try.prog [25, 62, 73] (fun x : Ground × Pt × (Int × Int) => okGround x.1) (fun x => [.agg (encGround x.1), .agg (encPt x.2.1), .agg [.int .i64 x.2.2.1, .int .i64 x.2.2.2]]) :=
  (readsA_cons Try.underlying25 rGround (g := fun g => .agg (encGround g)) (.inr ⟨rfl, fun _ => rfl⟩) (readsA_cons Try.underlying62 rPt (g := fun p => .agg (encPt p)) (.inr ⟨rfl, fun _ => rfl⟩)
    (readsA_cons Try.underlying73 rAt2 (g := fun x => .agg [.int .i64 x.1, .int .i64 x.2]) (.inr ⟨rfl, fun _ => rfl⟩) readsA_nil))).map (fun x => (x.1, x.2.1, x.2.2.1)) (fun _ _ => rfl) (fun _ h => h.1)
theorem aColumns : ReadsA Try.prog [25, 62, 63] (fun x : Ground × Pt × (Int × Int × Int) => okGround x.1 ∧ I64 x.2.2.2.2) (fun x => [.agg (encGround x.1), .agg (encPt x.2.1), .agg [.int .i64 x.2.2.1, .int .i64 x.2.2.2.1, .int .i64 x.2.2.2.2]]) :=
  (readsA_cons Try.underlying25 rGround (g := fun g => .agg (encGround g)) (.inr ⟨rfl, fun _ => rfl⟩) (readsA_cons Try.underlying62 rPt (g := fun p => .agg (encPt p)) (.inr ⟨rfl, fun _ => rfl⟩)
    (readsA_cons Try.underlying63 rAt3 (g := fun x => .agg [.int .i64 x.1, .int .i64 x.2.1, .int .i64 x.2.2]) (.inr ⟨rfl, fun _ => rfl⟩) readsA_nil))).map (fun x => (x.1, x.2.1, x.2.2.1)) (fun _ _ => rfl) (fun _ h => ⟨h.1, h.2.2.1.2.2⟩)

end Go.Pv.Soil

open Go Go.Proofs Go.Pv
set_option maxHeartbeats 1000000
set_option maxRecDepth 100000
set_option linter.unusedVariables false
namespace Go.Pv.Soil

def okMap (m : Grid) : Prop := (I64 m.x ∧ I64 m.y ∧ I64 m.side ∧ I64 m.cols ∧ I64 m.rows) ∧ m.levels.length ≤ maxLen ∧ ∀ x ∈ m.levels, I64 x
theorem rInts : Reads Try.prog 33 (fun l : List Int => l.length ≤ maxLen ∧ ∀ a ∈ l, I64 a) (fun l => [.sl (l.map encInt)]) := reads_slice Try.underlying33 rInt (k := 1) (by kernel_rfl) (by decide) (by kernel_rfl)
theorem rGrid : Reads Try.prog 35 okMap encGrid :=
  (reads_struct Try.underlying35 (by kernel_rfl) (readsF_cons (k := 1) rInt (by kernel_rfl) rfl (readsF_cons (k := 1) rInt (by kernel_rfl) rfl (readsF_cons (k := 1) rInt (by kernel_rfl) rfl (readsF_cons (k := 1) rInt (by kernel_rfl) rfl (readsF_cons (k := 1) rInt (by kernel_rfl) rfl
    (readsF_cons (k := 1) rInts (by kernel_rfl) rfl readsF_nil))))))).map
    (fun x => ⟨x.1, x.2.1, x.2.2.1, x.2.2.2.1, x.2.2.2.2.1, x.2.2.2.2.2.1⟩) (fun _ _ => rfl) (fun _ h => ⟨⟨h.1, h.2.1, h.2.2.1, h.2.2.2.1, h.2.2.2.2.1⟩, h.2.2.2.2.2.1.1, h.2.2.2.2.2.1.2⟩) fun _ _ => by kernel_rfl

theorem aMap : ReadsA Try.prog [25, 35] (fun x : Ground × Grid => okGround x.1 ∧ okMap x.2) (fun x => [.agg (encGround x.1), .agg (encGrid x.2)]) :=
  (readsA_cons Try.underlying25 rGround (g := fun g => .agg (encGround g)) (.inr ⟨rfl, fun _ => rfl⟩) (readsA_cons Try.underlying35 rGrid (g := fun g => .agg (encGrid g)) (.inr ⟨rfl, fun _ => rfl⟩) readsA_nil)).map
    (fun x => (x.1, x.2.1)) (fun _ _ => rfl) (fun _ h => ⟨h.1, h.2.1⟩)
theorem aMaps : ReadsA Try.prog [25, 35, 35] (fun x : Ground × Grid × Grid => okGround x.1 ∧ okMap x.2.1 ∧ okMap x.2.2) (fun x => [.agg (encGround x.1), .agg (encGrid x.2.1), .agg (encGrid x.2.2)]) :=
  (readsA_cons Try.underlying25 rGround (g := fun g => .agg (encGround g)) (.inr ⟨rfl, fun _ => rfl⟩) (readsA_cons Try.underlying35 rGrid (g := fun g => .agg (encGrid g)) (.inr ⟨rfl, fun _ => rfl⟩) (readsA_cons Try.underlying35 rGrid (g := fun g => .agg (encGrid g)) (.inr ⟨rfl, fun _ => rfl⟩) readsA_nil))).map
    (fun x => (x.1, x.2.1, x.2.2.1)) (fun _ _ => rfl) (fun _ h => ⟨h.1, h.2.1, h.2.2.1⟩)
theorem aMapAt : ReadsA Try.prog [25, 35, 73] (fun x : Ground × Grid × (Int × Int) => okGround x.1 ∧ okMap x.2.1) (fun x => [.agg (encGround x.1), .agg (encGrid x.2.1), .agg [.int .i64 x.2.2.1, .int .i64 x.2.2.2]]) :=
  (readsA_cons Try.underlying25 rGround (g := fun g => .agg (encGround g)) (.inr ⟨rfl, fun _ => rfl⟩) (readsA_cons Try.underlying35 rGrid (g := fun g => .agg (encGrid g)) (.inr ⟨rfl, fun _ => rfl⟩) (readsA_cons Try.underlying73 rAt2 (g := fun x => .agg [.int .i64 x.1, .int .i64 x.2]) (.inr ⟨rfl, fun _ => rfl⟩) readsA_nil))).map
    (fun x => (x.1, x.2.1, x.2.2.1)) (fun _ _ => rfl) (fun _ h => ⟨h.1, h.2.1⟩)
end Go.Pv.Soil

open Go Go.Proofs Go.Pv
set_option maxHeartbeats 1000000
set_option maxRecDepth 100000
set_option linter.unusedVariables false
namespace Go.Pv.Soil
theorem rGPq : Reads Try.prog 62 (fun p : Geo.Pt => I64 p.x ∧ I64 p.y) Geo.encPt :=
  (reads_struct Try.underlying62 (by kernel_rfl) (readsF_cons (k := 1) rInt (by kernel_rfl) rfl (readsF_cons (k := 1) rInt (by kernel_rfl) rfl readsF_nil))).map
    (fun x => ⟨x.1, x.2.1⟩) (fun _ _ => rfl) (fun _ h => ⟨h.1, h.2.1⟩) fun _ _ => by kernel_rfl
theorem rQuay : Reads Try.prog 126 (fun q : Quay => q.name.size ≤ maxLen) encQuay :=
  (reads_struct Try.underlying126 (by kernel_rfl) (readsF_cons (k := 1) rStr (by kernel_rfl) rfl (readsF_cons (k := 2) rGPq (by kernel_rfl) rfl (readsF_cons (k := 2) rGPq (by kernel_rfl) rfl (readsF_cons (k := 1) rInt (by kernel_rfl) rfl (readsF_cons (k := 1) rInt (by kernel_rfl) rfl readsF_nil)))))).map
    (fun x => ⟨x.1, x.2.1, x.2.2.1, x.2.2.2.1, x.2.2.2.2.1⟩) (fun _ _ => rfl) (fun _ h => h.1) fun _ _ => by kernel_rfl
theorem aWedge : ReadsA Try.prog [126, 35] (fun x : Quay × Grid => x.1.name.size ≤ maxLen ∧ okMap x.2) (fun x => [.agg (encQuay x.1), .agg (encGrid x.2)]) :=
  (readsA_cons Try.underlying126 rQuay (g := fun q => .agg (encQuay q)) (.inr ⟨rfl, fun _ => rfl⟩) (readsA_cons Try.underlying35 rGrid (g := fun g => .agg (encGrid g)) (.inr ⟨rfl, fun _ => rfl⟩) readsA_nil)).map
    (fun x => (x.1, x.2.1)) (fun _ _ => rfl) (fun _ h => ⟨h.1, h.2.1⟩)
end Go.Pv.Soil

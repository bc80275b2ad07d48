import Derived.Test.YtdedpndkohfgbaaGreatProg
import Derived.Test.YtdedpndkohfgbaaGreatWAF
import Derived.Test.YtdedpndkohfgbaaGreatWAD
import Derived.KernelRfl
/- Part of the proofs over YtdedpndkohfgbaaGreat: S68, S24, S69, S70, S71, S72, S73, PHZ, S25, S26, S27, S28, S29, S30, Q1, Q2, S31, S34, S32, S33, S35, S36, S37, S39. -/
set_option linter.unusedVariables false
set_option linter.unusedSimpArgs false
set_option linter.unnecessarySimpa false
open Go Go.Proofs Go.Pv
set_option maxHeartbeats 4000000
set_option maxRecDepth 100000
set_option linter.unusedSimpArgs false
set_option linter.unusedVariables false
namespace Go.Pv.Soil
def encF5 (g : Grid) : List D := [.int .i64 g.x, .int .i64 g.y, .int .i64 g.side, .int .i64 g.cols, .int .i64 g.rows]
theorem c194 (n : Int) : Contract Tryz.prog 75 [.int .i64 n] (.ret (.int .i64 30000)) := by
  refine contract_of mix Tryz.func75 rfl rfl (by rw [Tryz.ntmps75]; exact Nat.le_of_ble_eq_true rfl) ?_; rw [Tryz.results75, Tryz.ntmps75]; simp only [argsE, Nat.reduceAdd]
  repeat' first
           | (with_reducible apply go_op)
           | (with_reducible apply go_next)
           | ((with_reducible (show evOp _ _ _ _ _ _)); first
             | (((with_reducible apply go_mv_int); rfl; rfl))
             | ((with_reducible apply go_as)))
           | ((with_reducible (show evOps _ _ _ _ _ _)); first
             | (with_reducible apply go_nil))
           | ((with_reducible (show evG _ _ _ _ _)); first
             | (with_reducible apply go_seq)
             | (with_reducible apply go_region)
             | (with_reducible apply go_ret))
           | (with_reducible apply go_kseq)
           | ((with_reducible apply end_int); rfl)
           | (with_reducible rfl)
def fillL (n i : Nat) : List Int := List.replicate i 30000 ++ List.replicate (n - i) 0
theorem fill_0 (n : Nat) : List.replicate ((n : Int).toNat) (cellsD (D.int .i64 0)) = (fillL n 0).map encInt := by
  show List.replicate n _ = _
  simp [fillL, encInt, cellsD]
theorem fill_n (n : Nat) : List.replicate n (30000 : Int) = fillL n n := by simp [fillL]
theorem fill_len {n i : Nat} (h : i ≤ n) : (fillL n i).length = n := by simp [fillL]; omega
theorem fill_set {n i : Nat} (h : i < n) : (fillL n i).set i 30000 = fillL n (i + 1) := by
  unfold fillL
  obtain ⟨k, hk⟩ : ∃ k, n - i = k + 1 := ⟨n - i - 1, by omega⟩
  rw [hk, show n - (i + 1) = k by omega, List.set_append_right _ _ (by simp), List.length_replicate, Nat.sub_self, List.replicate_succ, List.set_cons_zero, List.replicate_succ' (n := i), List.append_assoc]
  rfl
theorem c193 (m : Grid) (hl : m.levels.length ≤ 1000000000) : Contract Tryz.prog 74 [.agg (encGrid m), .clo (.func 75) [] []] (.ret (.agg (encF5 m ++ [.fr 1 ((List.replicate m.levels.length (30000 : Int)).map encInt)]))) := by
  refine contract_of mix Tryz.func74 rfl rfl (by rw [Tryz.ntmps74]; exact Nat.le_of_ble_eq_true rfl) ?_; rw [Tryz.results74, Tryz.ntmps74]; simp only [argsE, Nat.reduceAdd]
  repeat' first
           | (with_reducible apply go_op)
           | (with_reducible apply go_next)
           | ((with_reducible (show evOp _ _ _ _ _ _)); first
             | ((with_reducible (show evOp _ (.load _ _) _ _ _ _)) ; first | ((with_reducible apply go_ld_agg); rfl; rfl; rfl; rfl) | ((with_reducible apply go_load_own); rfl; rfl; rfl; rfl))
             | (((with_reducible apply go_fieldAddr_own); rfl; rfl; rfl))
             | (((with_reducible apply go_len); rfl; rfl))
             | (((with_reducible apply go_st_agg); rfl; rfl; rfl; rfl; rfl; rfl; rfl))
             | (((with_reducible apply go_bx_agg); rfl; rfl; (exact Nat.le_of_ble_eq_true rfl); rfl; rfl))
             | (((with_reducible apply go_alloc); rfl; rfl; rfl)))
           | ((with_reducible (show evOps _ _ _ _ _ _)); first
             | (with_reducible apply go_nil))
           | ((with_reducible (show evG _ _ _ _ _)); first
             | (with_reducible apply go_seq)
             | (with_reducible apply go_region))
           | (with_reducible apply go_kseq)
  refine go_makeSlice (e := 3) (k := .i64) (k' := .i64) (m := m.levels.length) (m' := m.levels.length) (z := .int .i64 0) Tryz.underlying26 rfl rfl (by kernel_rfl) ⟨rfl, by kernel_rfl, by decide +kernel, by omega, rfl, by omega, ?_⟩ rfl ?_
  · have : Tryz.prog.bytesOf 3 = 8 := by kernel_rfl
    rw [this]; omega
  rw [fill_0]
  repeat' first
           | (with_reducible apply go_op)
           | (with_reducible apply go_next)
           | ((with_reducible (show evOp _ _ _ _ _ _)); first
             | (((with_reducible apply go_mv_int); rfl; rfl))
             | (((with_reducible apply go_load_own); rfl; rfl; rfl; rfl))
             | (((with_reducible apply go_fieldAddr_own); rfl; rfl; rfl))
             | (((with_reducible apply go_len_own); rfl; rfl; rfl))
             | (((with_reducible apply go_store); rfl; rfl; rfl; rfl; rfl; rfl; (exact Nat.le_of_ble_eq_true rfl); (first | exact Nat.le_of_ble_eq_true rfl | omega); rfl; rfl)))
           | ((with_reducible (show evOps _ _ _ _ _ _)); first
             | (with_reducible apply go_nil))
           | ((with_reducible (show evG _ _ _ _ _)); first
             | (with_reducible apply go_seq)
             | (with_reducible apply go_region)
             | (with_reducible apply go_block))
           | (with_reducible apply go_kseq)
  refine go_count m.levels.length (fun i => ⟨[(16, .int .i64 i), (15, .int .i64 m.levels.length), (14, .os 3 0 m.levels.length), (5, .op 2 0 0), (4, .op 1 0 0), (1, .clo (.func 75) [] [])], [(1, ⟨6, false, [[.int .i64 0, .int .i64 0, .int .i64 0, .int .i64 0, .int .i64 0, .nilsl]]⟩), (2, ⟨6, false, [encF5 m ++ [.os 3 0 m.levels.length]]⟩), (3, ⟨1, true, (fillL m.levels.length i).map encInt⟩)], 32, 28⟩) (fun i => True)
    (entails_eq (nx := 32) (k := 0) (ns := []) (ks := [16, 15, 14, 5, 4, 1]) [(32, 1), (96, 2), (256, 3)] rfl (by simp) (by kernel_rfl)) trivial ?_
  intro i hi _
  by_cases hlt : i < m.levels.length
  · have hle := fill_len (n := m.levels.length) (i := i) (by omega)
    repeat' first
           | (with_reducible apply go_op)
           | (with_reducible apply go_next)
           | ((with_reducible (show evOp _ _ _ _ _ _)); first
             | ((with_reducible (show evOp _ (.move _) _ _ _ _)) ; first | ((with_reducible apply go_mv_int); rfl; rfl) | ((with_reducible apply go_mv_clo); rfl; rfl))
             | ((with_reducible apply go_as))
             | ((with_reducible (show evOp _ (.load _ _) _ _ _ _)) ; first | ((with_reducible apply go_ld_agg); rfl; rfl; rfl; rfl) | ((with_reducible apply go_load_own); rfl; rfl; rfl; rfl))
             | (((with_reducible apply go_fieldAddr_own); rfl; rfl; rfl))
             | (((with_reducible apply go_cmp); rfl; rfl; rfl; rfl))
             | (((with_reducible apply go_st_agg); rfl; rfl; rfl; rfl; rfl; rfl; rfl)))
           | ((with_reducible (show evOps _ _ _ _ _ _)); first
             | (with_reducible apply go_nil)
             | ((with_reducible apply go_pre); rfl))
           | ((with_reducible (show evG _ _ _ _ _)); first
             | (with_reducible apply go_seq)
             | (with_reducible apply go_region)
             | (((with_reducible apply go_cond); rfl) <;> (intro h; simp only [h]; try simp only [decide_eq_true_eq, decide_eq_false_iff_not, Bool.not_eq_true', Bool.not_eq_false', Bool.not_true, Bool.not_false] at h; try exact absurd trivial h))
             | ((with_reducible apply go_order); kernel_rfl; rfl)
             | (with_reducible apply go_ret)
             | (with_reducible apply go_skipc)
             | (with_reducible apply go_block)
             | (with_reducible apply go_exit))
           | (with_reducible apply go_kseq)
           | (with_reducible apply go_kblock_exit)
           | (with_reducible apply go_kseq_exit)
    rotate_left
    · exfalso; omega
    refine go_clo_int (g := 75) (ys := []) (d1 := .int .i64 i) rfl rfl (fun _ _ => rfl) (c194 i) rfl ?_
    repeat' first
           | (with_reducible apply go_op)
           | (with_reducible apply go_next)
           | ((with_reducible (show evOp _ _ _ _ _ _)); first
             | (((with_reducible apply go_index_om); rfl; rfl; rfl; (with_reducible rfl); rfl; rfl; omega; (intro hlt))))
           | ((with_reducible (show evOps _ _ _ _ _ _)); first
             | (with_reducible apply go_nil)
             | ((with_reducible apply go_pre); rfl)
             | ((with_reducible apply go_pre_stop); rfl)
             | ((with_reducible apply go_suf); rfl)
             | ((with_reducible apply go_suf_stop); rfl))
           | (with_reducible apply go_ksuf)
    refine go_store_om (f := encInt) (l := fillL m.levels.length i) (a := 30000) rfl rfl rfl (by omega) rfl rfl rfl rfl (Nat.le_refl _) rfl ?_
    rw [fill_set (n := m.levels.length) (i := i) (by omega)]
    repeat' first
           | (with_reducible apply go_op)
           | (with_reducible apply go_next)
           | ((with_reducible (show evOp _ _ _ _ _ _)); first
             | (((with_reducible apply go_mv_int); rfl; rfl))
             | (((with_reducible apply go_add); rfl; rfl; rfl; omega)))
           | ((with_reducible (show evOps _ _ _ _ _ _)); first
             | (with_reducible apply go_nil))
           | ((with_reducible (show evG _ _ _ _ _)); first
             | (with_reducible apply go_region))
           | (with_reducible apply go_kseq)
           | (with_reducible apply go_kblock)
    exact ⟨by omega, trivial, entails_eq (nx := 32) (k := 0) (ns := []) (ks := [16, 15, 14, 5, 4, 1]) [(1, 1), (2, 2), (3, 3)] rfl (by simp) (by kernel_rfl)⟩
  · have e : i = m.levels.length := by omega
    subst e
    rw [fill_n]
    repeat' first
           | (with_reducible apply go_op)
           | (with_reducible apply go_next)
           | ((with_reducible (show evOp _ _ _ _ _ _)); first
             | ((with_reducible (show evOp _ (.move _) _ _ _ _)) ; first | ((with_reducible apply go_mv_int); rfl; rfl) | ((with_reducible apply go_mv_clo); rfl; rfl))
             | ((with_reducible apply go_as))
             | ((with_reducible (show evOp _ (.load _ _) _ _ _ _)) ; first | ((with_reducible apply go_ld_agg); rfl; rfl; rfl; rfl) | ((with_reducible apply go_load_own); rfl; rfl; rfl; rfl))
             | (((with_reducible apply go_fieldAddr_own); rfl; rfl; rfl))
             | (((with_reducible apply go_cmp); rfl; rfl; rfl; rfl))
             | (((with_reducible apply go_st_agg); rfl; rfl; rfl; rfl; rfl; rfl; rfl)))
           | ((with_reducible (show evOps _ _ _ _ _ _)); first
             | (with_reducible apply go_nil)
             | ((with_reducible apply go_pre); rfl))
           | ((with_reducible (show evG _ _ _ _ _)); first
             | (with_reducible apply go_seq)
             | (with_reducible apply go_region)
             | (((with_reducible apply go_cond); rfl) <;> (intro h; simp only [h]; try simp only [decide_eq_true_eq, decide_eq_false_iff_not, Bool.not_eq_true', Bool.not_eq_false', Bool.not_true, Bool.not_false] at h; try exact absurd trivial h))
             | ((with_reducible apply go_order); kernel_rfl; rfl)
             | (with_reducible apply go_ret)
             | (with_reducible apply go_skipc)
             | (with_reducible apply go_block)
             | (with_reducible apply go_exit))
           | (with_reducible apply go_kseq)
           | (with_reducible apply go_kblock_exit)
           | (with_reducible apply go_kseq_exit)
    · exfalso; omega
    · exact finK_ret (fin_agf (cs := encF5 m) (len := m.levels.length) rfl rfl (by simp [fill_len]) rfl)
end Go.Pv.Soil

open Go Go.Proofs Go.Pv
set_option maxHeartbeats 2000000
set_option maxRecDepth 100000
set_option linter.unusedSimpArgs false
set_option linter.unusedVariables false
namespace Go.Pv.Soil

/-- A grid that is in order. -/
structure OkGrid (g : Grid) : Prop where
  bds : ((-1000000 ≤ g.x ∧ g.x ≤ 1000000) ∧ -1000000 ≤ g.y ∧ g.y ≤ 1000000) ∧ (100 ≤ g.side ∧ g.side ≤ 10000) ∧ (1 ≤ g.cols ∧ g.cols ≤ 1024) ∧ 1 ≤ g.rows ∧ g.rows ≤ 1024
  cells : g.cols * g.rows ≤ 1024
  ends : g.x + g.cols * g.side ≤ 1000000 ∧ g.y + g.rows * g.side ≤ 1000000
  len : (g.levels.length : Int) = g.cols * g.rows
  lvl : ∀ i (h : i < g.levels.length), g.levels[i] = 30000 ∨ lvOK g.levels[i] = true

theorem okGrid {g : Grid} (h : gridE g = 0) : OkGrid g := by
  unfold gridE at h
  split at h
  · omega
  · rename_i h1
    split at h
    · omega
    · split at h
      · omega
      · split at h
        · omega
        · split at h
          · omega
          · rename_i h5
            refine ⟨Decidable.not_not.1 h1, by omega, by omega, by omega, fun i hi => ?_⟩
            simp only [List.any_eq_true, not_exists, not_and] at h5
            have := h5 _ (List.getElem_mem hi)
            simp only [badLv, Bool.and_eq_true, decide_eq_true_eq, Bool.not_eq_true', not_and, Bool.not_eq_false] at this
            by_cases h3 : g.levels[i] = 30000
            · exact .inl h3
            · exact .inr (this h3)

theorem OkGrid.small {g : Grid} (h : OkGrid g) : g.levels.length ≤ 1024 := by have := h.len; have := h.cells; omega

/-- The middle of a cell. -/
def colE' (g : Grid) (i : Nat) : Int := (i : Int) % g.cols
def rowE' (g : Grid) (i : Nat) : Int := (i : Int) / g.cols
def centreE (g : Grid) (i : Nat) : Pt := ⟨g.x + (i : Int) % g.cols * g.side + g.side / 2, g.y + (i : Int) / g.cols * g.side + g.side / 2⟩
def cornerE (g : Grid) (i : Nat) : Pt := ⟨g.x + (i : Int) % g.cols * g.side, g.y + (i : Int) / g.cols * g.side⟩
theorem nonneg_mul {a b m n : Int} (ha : 0 ≤ a ∧ a ≤ m) (hb : 0 ≤ b ∧ b ≤ n) : 0 ≤ a * b ∧ a * b ≤ m * n :=
  ⟨Int.mul_nonneg ha.1 hb.1, Int.mul_le_mul ha.2 hb.2 hb.1 (by omega)⟩
theorem cell_bds {g : Grid} (h : OkGrid g) {i : Nat} (hi : i < g.levels.length) : (0 ≤ (i : Int) % g.cols ∧ (i : Int) % g.cols < g.cols) ∧ (0 ≤ (i : Int) / g.cols ∧ (i : Int) / g.cols < g.rows) ∧
    (0 ≤ (i : Int) % g.cols * g.side ∧ (i : Int) % g.cols * g.side ≤ 10240000) ∧ (0 ≤ (i : Int) / g.cols * g.side ∧ (i : Int) / g.cols * g.side ≤ 10240000) := by
  have hb := h.bds
  have h1 : 0 ≤ (i : Int) % g.cols := Int.emod_nonneg _ (by omega)
  have h2 : (i : Int) % g.cols < g.cols := Int.emod_lt_of_pos _ (by omega)
  have h3 : 0 ≤ (i : Int) / g.cols := Int.ediv_nonneg (by omega) (by omega)
  have h4 : (i : Int) / g.cols < g.rows := Int.ediv_lt_of_lt_mul (by omega) (by have := h.len; rw [Int.mul_comm]; omega)
  have h5 := nonneg_mul (a := (i : Int) % g.cols) (b := g.side) (m := 1024) (n := 10000) (by omega) (by omega)
  have h6 := nonneg_mul (a := (i : Int) / g.cols) (b := g.side) (m := 1024) (n := 10000) (by omega) (by omega)
  omega

theorem c60 (g : Grid) (hl : g.levels.length < 1000000000000) (i : Int) : Contract Tryz.prog 86 [.agg (encGrid g), .int .i64 i] (.ret (.bool (decide (0 ≤ i ∧ i < g.levels.length)))) := by
  refine contract_of mix Tryz.func86 rfl rfl (by rw [Tryz.ntmps86]; exact Nat.le_of_ble_eq_true rfl) ?_; rw [Tryz.results86, Tryz.ntmps86]; simp only [argsE, Nat.reduceAdd]
  repeat' first
           | (with_reducible apply go_op)
           | (with_reducible apply go_next)
           | ((with_reducible (show evOp _ _ _ _ _ _)); first
             | ((with_reducible (show evOp _ (.move _) _ _ _ _)) ; first | ((with_reducible apply go_mv_int); rfl; rfl) | ((with_reducible apply go_mv_bool); rfl; rfl))
             | ((with_reducible apply go_as))
             | (((with_reducible apply go_load_own); rfl; rfl; rfl; rfl))
             | (((with_reducible apply go_fieldAddr_own); rfl; rfl; rfl))
             | (((with_reducible apply go_cmp); rfl; rfl; rfl; rfl))
             | (((with_reducible apply go_len); rfl; rfl))
             | (((with_reducible apply go_pick); rfl; rfl; rfl))
             | (((with_reducible apply go_bx_agg); rfl; rfl; (exact Nat.le_of_ble_eq_true rfl); rfl; rfl)))
           | ((with_reducible (show evOps _ _ _ _ _ _)); first
             | (with_reducible apply go_nil)
             | ((with_reducible apply go_run); rfl; rfl)
             | ((with_reducible apply go_pass); rfl; rfl; rfl)
             | (((with_reducible apply go_guard); rfl) <;> (intro h; simp only [h, Bool.not_true, Bool.not_false]; (try with_reducible (refine ⟨rfl, ?_⟩)); try simp only [decide_eq_true_eq, decide_eq_false_iff_not, Bool.not_eq_true', Bool.not_eq_false', Bool.not_true, Bool.not_false] at h; try exact absurd trivial h)))
           | ((with_reducible (show evG _ _ _ _ _)); first
             | (with_reducible apply go_seq)
             | (with_reducible apply go_region)
             | (with_reducible apply go_ret))
           | (with_reducible apply go_kseq)
           | ((with_reducible apply end_bool); rfl)
  · exact decide_eq_decide.2 (by omega)
  · exact (decide_eq_false (by omega)).symm

theorem c104 (g : Grid) (i : Nat) (hi : i < g.levels.length) : Contract Tryz.prog 39 [.agg (encGrid g), .int .i64 i] (.ret (.bool (!decide (g.levels[i] = 30000)))) := by
  refine contract_of mix Tryz.func39 rfl rfl (by rw [Tryz.ntmps39]; exact Nat.le_of_ble_eq_true rfl) ?_; rw [Tryz.results39, Tryz.ntmps39]; simp only [argsE, Nat.reduceAdd]
  repeat' first
           | (with_reducible apply go_op)
           | (with_reducible apply go_next)
           | ((with_reducible (show evOp _ _ _ _ _ _)); first
             | ((with_reducible (show evOp _ (.move _) _ _ _ _)) ; first | ((with_reducible apply go_mv_int); rfl; rfl) | ((with_reducible apply go_mv_bool); rfl; rfl))
             | ((with_reducible apply go_as))
             | ((with_reducible (show evOp _ (.load _ _) _ _ _ _)) ; first | ((with_reducible apply go_load); rfl; rfl; rfl) | ((with_reducible apply go_load_own); rfl; rfl; rfl; rfl))
             | (((with_reducible apply go_fieldAddr_own); rfl; rfl; rfl))
             | (((with_reducible apply go_index_nat); rfl; rfl; (with_reducible rfl); (intro; rfl); rfl; omega; (intro hlt)))
             | (((with_reducible apply go_cmp); rfl; rfl; rfl; rfl))
             | (((with_reducible apply go_bx_agg); rfl; rfl; (exact Nat.le_of_ble_eq_true rfl); rfl; rfl)))
           | ((with_reducible (show evOps _ _ _ _ _ _)); first
             | (with_reducible apply go_nil))
           | ((with_reducible (show evG _ _ _ _ _)); first
             | (with_reducible apply go_seq)
             | (with_reducible apply go_region)
             | (with_reducible apply go_ret))
           | (with_reducible apply go_kseq)
           | ((with_reducible apply end_bool); rfl)
           | (with_reducible rfl)

theorem c41 (g : Grid) (hl : g.levels.length < 1000000000000) (i : Nat) (hi : i < g.levels.length) : Contract Tryz.prog 51 [.agg (encGrid g), .int .i64 i] (.ret (.bool (!decide (g.levels[i] = 30000)))) := by
  have h60 : Contract Tryz.prog 86 [.agg (encGrid g), .int .i64 i] (.ret (.bool true)) := by
    have := c60 g hl i
    rwa [decide_eq_true (by omega)] at this
  refine contract_of mix Tryz.func51 rfl rfl (by rw [Tryz.ntmps51]; exact Nat.le_of_ble_eq_true rfl) ?_; rw [Tryz.results51, Tryz.ntmps51]; simp only [argsE, Nat.reduceAdd]
  repeat' first
           | (with_reducible apply go_op)
           | (with_reducible apply go_next)
           | ((with_reducible (show evOp _ _ _ _ _ _)); first
             | ((with_reducible (show evOp _ (.move _) _ _ _ _)) ; first | ((with_reducible apply go_mv_int); rfl; rfl) | ((with_reducible apply go_mv_bool); rfl; rfl))
             | ((with_reducible apply go_as))
             | ((with_reducible (show evOp _ (.load _ _) _ _ _ _)) ; first | ((with_reducible apply go_ld_agg); rfl; rfl; rfl; rfl) | ((with_reducible apply go_load); rfl; rfl; rfl) | ((with_reducible apply go_load_own); rfl; rfl; rfl; rfl))
             | (((with_reducible apply go_fieldAddr_own); rfl; rfl; rfl))
             | (((with_reducible apply go_index_nat); rfl; rfl; (with_reducible rfl); (intro; rfl); rfl; omega; (intro hlt)))
             | (((with_reducible apply go_cmp); rfl; rfl; rfl; rfl))
             | (((with_reducible apply go_fn_bool); rfl; (exact h60); rfl))
             | (((with_reducible apply go_pick); rfl; rfl; rfl))
             | (((with_reducible apply go_bx_agg); rfl; rfl; (exact Nat.le_of_ble_eq_true rfl); rfl; rfl)))
           | ((with_reducible (show evOps _ _ _ _ _ _)); first
             | (with_reducible apply go_nil)
             | ((with_reducible apply go_run); rfl; rfl))
           | ((with_reducible (show evG _ _ _ _ _)); first
             | (with_reducible apply go_seq)
             | (with_reducible apply go_region)
             | (with_reducible apply go_ret))
           | (with_reducible apply go_kseq)
           | ((with_reducible apply end_bool); rfl)
           | (with_reducible rfl)

theorem cells62 : Tryz.prog.cellsOf 23 = 2 := by kernel_rfl
theorem c103 (g : Grid) (h : OkGrid g) (i : Nat) (hi : i < g.levels.length) : Contract Tryz.prog 50 [.agg (encGrid g), .int .i64 i] (.ret (.agg (encPt (centreE g i)))) := by
  have hb := h.bds
  have hc := cell_bds h hi
  have hs := h.small
  refine contract_of mix Tryz.func50 rfl rfl (by rw [Tryz.ntmps50]; exact Nat.le_of_ble_eq_true rfl) ?_; rw [Tryz.results50, Tryz.ntmps50]; simp only [argsE, Nat.reduceAdd]
  repeat' first
           | (with_reducible apply go_op)
           | (with_reducible apply go_next)
           | ((with_reducible (show evOp _ _ _ _ _ _)); first
             | (((with_reducible apply go_mv_int); rfl; rfl))
             | (((with_reducible apply go_load_own); rfl; rfl; rfl; rfl))
             | (((with_reducible apply go_fieldAddr_own); rfl; rfl; rfl))
             | ((with_reducible (show evOp _ (.binOp _ _ _ _ _) _ _ _ _)) ; first | ((with_reducible apply go_add); rfl; rfl; rfl; omega) | ((with_reducible apply go_mul); rfl; rfl; rfl; omega) | ((with_reducible apply go_rem_pos); rfl; rfl; rfl; omega) | ((with_reducible apply go_quo_pos); rfl; rfl; rfl; omega))
             | (((with_reducible apply go_st_agg); rfl; rfl; rfl; rfl; rfl; rfl; rfl))
             | (((with_reducible apply go_bd2_int); rfl; rfl; rfl; rfl))
             | (((with_reducible apply go_bx_agg); rfl; rfl; (exact Nat.le_of_ble_eq_true rfl); rfl; rfl))
             | (((with_reducible apply go_alloc); rfl; rfl; rfl)))
           | ((with_reducible (show evOps _ _ _ _ _ _)); first
             | (with_reducible apply go_nil)
             | ((with_reducible apply go_pre); rfl)
             | ((with_reducible apply go_pre_stop); rfl)
             | ((with_reducible apply go_suf); rfl)
             | ((with_reducible apply go_suf_stop); rfl))
           | ((with_reducible (show evG _ _ _ _ _)); first
             | (with_reducible apply go_seq)
             | (with_reducible apply go_region)
             | ((with_reducible apply go_order); kernel_rfl; rfl)
             | (with_reducible apply go_ret))
           | (with_reducible apply go_kseq)
           | (with_reducible apply go_ksuf)
           | ((with_reducible apply end_agg); rfl; rfl)
  rw [cells62]; rfl

theorem c175 (g : Grid) (h : OkGrid g) (i : Nat) (hi : i < g.levels.length) : Contract Tryz.prog 142 [.agg (encGrid g), .int .i64 i] (.ret (.agg (encPt (cornerE g i)))) := by
  have hb := h.bds
  have hc := cell_bds h hi
  have hs := h.small
  refine contract_of mix Tryz.func142 rfl rfl (by rw [Tryz.ntmps142]; exact Nat.le_of_ble_eq_true rfl) ?_; rw [Tryz.results142, Tryz.ntmps142]; simp only [argsE, Nat.reduceAdd]
  repeat' first
           | (with_reducible apply go_op)
           | (with_reducible apply go_next)
           | ((with_reducible (show evOp _ _ _ _ _ _)); first
             | (((with_reducible apply go_mv_int); rfl; rfl))
             | (((with_reducible apply go_load_own); rfl; rfl; rfl; rfl))
             | (((with_reducible apply go_fieldAddr_own); rfl; rfl; rfl))
             | ((with_reducible (show evOp _ (.binOp _ _ _ _ _) _ _ _ _)) ; first | ((with_reducible apply go_add); rfl; rfl; rfl; omega) | ((with_reducible apply go_mul); rfl; rfl; rfl; omega) | ((with_reducible apply go_rem_pos); rfl; rfl; rfl; omega) | ((with_reducible apply go_quo_pos); rfl; rfl; rfl; omega))
             | (((with_reducible apply go_st_agg); rfl; rfl; rfl; rfl; rfl; rfl; rfl))
             | (((with_reducible apply go_bd2_int); rfl; rfl; rfl; rfl))
             | (((with_reducible apply go_bx_agg); rfl; rfl; (exact Nat.le_of_ble_eq_true rfl); rfl; rfl))
             | (((with_reducible apply go_alloc); rfl; rfl; rfl)))
           | ((with_reducible (show evOps _ _ _ _ _ _)); first
             | (with_reducible apply go_nil)
             | ((with_reducible apply go_pre); rfl)
             | ((with_reducible apply go_pre_stop); rfl)
             | ((with_reducible apply go_suf); rfl)
             | ((with_reducible apply go_suf_stop); rfl))
           | ((with_reducible (show evG _ _ _ _ _)); first
             | (with_reducible apply go_seq)
             | (with_reducible apply go_region)
             | ((with_reducible apply go_order); kernel_rfl; rfl)
             | (with_reducible apply go_ret))
           | (with_reducible apply go_kseq)
           | (with_reducible apply go_ksuf)
           | ((with_reducible apply end_agg); rfl; rfl)
  rw [cells62]; rfl

theorem c131 (g : Grid) (h : OkGrid g) (i : Nat) (hi : i < g.levels.length) : Contract Tryz.prog 114 [.agg (encGrid g), .int .i64 i] (.ret (.agg (encPt (centreE g i)))) := by
  have hb := h.bds
  have hc := cell_bds h hi
  have hs := h.small
  have h175 : Contract Tryz.prog 142 [.agg (encGrid g), .int .i64 i] (.ret (.agg [.int .i64 (g.x + (i : Int) % g.cols * g.side), .int .i64 (g.y + (i : Int) / g.cols * g.side)])) := c175 g h i hi
  refine contract_of mix Tryz.func114 rfl rfl (by rw [Tryz.ntmps114]; exact Nat.le_of_ble_eq_true rfl) ?_; rw [Tryz.results114, Tryz.ntmps114]; simp only [argsE, Nat.reduceAdd]
  repeat' first
           | (with_reducible apply go_op)
           | (with_reducible apply go_next)
           | ((with_reducible (show evOp _ _ _ _ _ _)); first
             | (((with_reducible apply go_mv_int); rfl; rfl))
             | ((with_reducible (show evOp _ (.load _ _) _ _ _ _)) ; first | ((with_reducible apply go_ld_agg); rfl; rfl; rfl; rfl) | ((with_reducible apply go_load_own); rfl; rfl; rfl; rfl))
             | (((with_reducible apply go_fieldAddr_own); rfl; rfl; rfl))
             | ((with_reducible (show evOp _ (.binOp _ _ _ _ _) _ _ _ _)) ; first | ((with_reducible apply go_add); rfl; rfl; rfl; omega) | ((with_reducible apply go_quo_pos); rfl; rfl; rfl; omega))
             | (((with_reducible apply go_fn_plain); rfl; (exact h175); rfl; (exact Nat.le_of_ble_eq_true rfl); rfl))
             | (((with_reducible apply go_st_agg); rfl; rfl; rfl; rfl; rfl; rfl; rfl))
             | (((with_reducible apply go_bd2_int); rfl; rfl; rfl; rfl))
             | (((with_reducible apply go_bx_agg); rfl; rfl; (exact Nat.le_of_ble_eq_true rfl); rfl; rfl))
             | (((with_reducible apply go_alloc); rfl; rfl; rfl)))
           | ((with_reducible (show evOps _ _ _ _ _ _)); first
             | (with_reducible apply go_nil))
           | ((with_reducible (show evG _ _ _ _ _)); first
             | (with_reducible apply go_seq)
             | (with_reducible apply go_region)
             | (with_reducible apply go_ret))
           | (with_reducible apply go_kseq)
           | ((with_reducible apply end_agg); rfl; rfl)
  all_goals (rw [cells62]; rfl)

theorem c130 (g : Grid) (h : OkGrid g) (i : Nat) (hi : i < g.levels.length) (h0 : gridE g = 0) : Contract Tryz.prog 113 [.agg (encGrid g), .int .i64 i] (.ret (.int .i64 0)) := by
  have hs := h.small
  have h144 := c144 g (by omega)
  rw [h0] at h144
  refine contract_of mix Tryz.func113 rfl rfl (by rw [Tryz.ntmps113]; exact Nat.le_of_ble_eq_true rfl) ?_; rw [Tryz.results113, Tryz.ntmps113]; simp only [argsE, Nat.reduceAdd]
  repeat' first
           | (with_reducible apply go_op)
           | (with_reducible apply go_next)
           | ((with_reducible (show evOp _ _ _ _ _ _)); first
             | (((with_reducible apply go_mv_int); rfl; rfl))
             | ((with_reducible apply go_as))
             | ((with_reducible (show evOp _ (.load _ _) _ _ _ _)) ; first | ((with_reducible apply go_ld_agg); rfl; rfl; rfl; rfl) | ((with_reducible apply go_load_own); rfl; rfl; rfl; rfl))
             | (((with_reducible apply go_fieldAddr_own); rfl; rfl; rfl))
             | ((with_reducible (show evOp _ (.binOp _ _ _ _ _) _ _ _ _)) ; first | ((with_reducible apply go_cmp); rfl; rfl; rfl; rfl) | ((with_reducible apply go_sub); rfl; rfl; rfl; omega))
             | ((with_reducible (show evOp _ (.call _) _ _ _ _)) ; first | ((with_reducible apply go_len); rfl; rfl) | ((with_reducible apply go_fn_int); rfl; (exact h144); rfl) | ((with_reducible apply go_fn_bool); rfl; (exact c174' _ _ _); rfl))
             | (((with_reducible apply go_not); rfl; rfl))
             | (((with_reducible apply go_bx_agg); rfl; rfl; (exact Nat.le_of_ble_eq_true rfl); rfl; rfl))
             | (((with_reducible apply go_bs1_int); rfl; rfl; rfl)))
           | ((with_reducible (show evOps _ _ _ _ _ _)); first
             | (with_reducible apply go_nil))
           | ((with_reducible (show evG _ _ _ _ _)); first
             | (with_reducible apply go_seq)
             | (with_reducible apply go_region)
             | ((with_reducible apply go_cond_f); rfl; rfl)
             | (((with_reducible apply go_cond); rfl) <;> (intro h; simp only [h]; try simp only [decide_eq_true_eq, decide_eq_false_iff_not, Bool.not_eq_true', Bool.not_eq_false', Bool.not_true, Bool.not_false] at h; try exact absurd trivial h))
             | (with_reducible apply go_ret)
             | (with_reducible apply go_skipc))
           | (with_reducible apply go_kseq)
           | (with_reducible apply go_kseq_ret)
           | ((with_reducible apply end_int); rfl)
           | (with_reducible rfl)
  all_goals (exfalso; omega)

theorem c74 (g : Grid) (h : OkGrid g) (i : Nat) (hi : i < g.levels.length) (h0 : gridE g = 0) : Contract Tryz.prog 80 [.agg (encGrid g), .int .i64 i] (.ret (.tup [.agg (encPt (centreE g i)), .int .i64 0])) := by
  have h130 := c130 g h i hi h0
  have h131 := c131 g h i hi
  refine contract_of mix Tryz.func80 rfl rfl (by rw [Tryz.ntmps80]; exact Nat.le_of_ble_eq_true rfl) ?_; rw [Tryz.results80, Tryz.ntmps80]; simp only [argsE, Nat.reduceAdd]
  repeat' first
           | (with_reducible apply go_op)
           | (with_reducible apply go_next)
           | ((with_reducible (show evOp _ _ _ _ _ _)); first
             | (((with_reducible apply go_mv_int); rfl; rfl))
             | ((with_reducible apply go_as))
             | (((with_reducible apply go_ld_agg); rfl; rfl; rfl; rfl))
             | (((with_reducible apply go_cmp); rfl; rfl; rfl; rfl))
             | ((with_reducible (show evOp _ (.call _) _ _ _ _)) ; first | ((with_reducible apply go_fn_int); rfl; (exact h130); rfl) | ((with_reducible apply go_fn_plain); rfl; (exact h131); rfl; (exact Nat.le_of_ble_eq_true rfl); rfl))
             | (((with_reducible apply go_st_agg); rfl; rfl; rfl; rfl; rfl; rfl; rfl))
             | (((with_reducible apply go_bx_agg); rfl; rfl; (exact Nat.le_of_ble_eq_true rfl); rfl; rfl))
             | (((with_reducible apply go_alloc); rfl; rfl; rfl)))
           | ((with_reducible (show evOps _ _ _ _ _ _)); first
             | (with_reducible apply go_nil))
           | ((with_reducible (show evG _ _ _ _ _)); first
             | (with_reducible apply go_seq)
             | (with_reducible apply go_region)
             | ((with_reducible apply go_cond_f); rfl; rfl)
             | (with_reducible apply go_ret)
             | (with_reducible apply go_skipc))
           | (with_reducible apply go_kseq)
           | ((with_reducible apply end_t2); rfl; rfl; rfl; rfl)
  all_goals (rw [cells62]; rfl)

theorem c101 (g : Grid) (h : OkGrid g) (i : Nat) (hi : i < g.levels.length) (h0 : gridE g = 0) : Contract Tryz.prog 38 [.agg (encGrid g), .int .i64 i] (.ret (.agg (encPt (centreE g i)))) := by
  have h74 := c74 g h i hi h0
  refine contract_of mix Tryz.func38 rfl rfl (by rw [Tryz.ntmps38]; exact Nat.le_of_ble_eq_true rfl) ?_; rw [Tryz.results38, Tryz.ntmps38]; simp only [argsE, Nat.reduceAdd]
  repeat' first
           | (with_reducible apply go_op)
           | (with_reducible apply go_next)
           | ((with_reducible (show evOp _ _ _ _ _ _)); first
             | ((with_reducible (show evOp _ (.move _) _ _ _ _)) ; first | ((with_reducible apply go_mv_int); rfl; rfl) | ((with_reducible apply go_mv_tup); rfl; rfl))
             | ((with_reducible apply go_as))
             | (((with_reducible apply go_ld_agg); rfl; rfl; rfl; rfl))
             | (((with_reducible apply go_fn_plain); rfl; (exact h74); rfl; (exact Nat.le_of_ble_eq_true rfl); rfl))
             | (((with_reducible apply go_st_agg); rfl; rfl; rfl; rfl; rfl; rfl; rfl))
             | (((with_reducible apply go_extract); rfl; rfl))
             | (((with_reducible apply go_bx_agg); rfl; rfl; (exact Nat.le_of_ble_eq_true rfl); rfl; rfl))
             | (((with_reducible apply go_alloc); rfl; rfl; rfl)))
           | ((with_reducible (show evOps _ _ _ _ _ _)); first
             | (with_reducible apply go_nil))
           | ((with_reducible (show evG _ _ _ _ _)); first
             | (with_reducible apply go_seq)
             | (with_reducible apply go_region)
             | (with_reducible apply go_ret))
           | (with_reducible apply go_kseq)
           | ((with_reducible apply end_agg); rfl; rfl)
  all_goals (rw [cells62]; rfl)

end Go.Pv.Soil

open Go Go.Proofs Go.Pv
set_option maxHeartbeats 4000000
set_option maxRecDepth 100000
set_option linter.unusedSimpArgs false
set_option linter.unusedVariables false
namespace Go.Pv.Soil
theorem c169 (g : Grid) (hl : g.levels.length ≤ 1000000000) (h0 : gridE g = 0) : Contract Tryz.prog 36 [.agg (encGrid g)] (.ret (.tup [.agg (encF5 g ++ [.fr 1 ((List.replicate g.levels.length (30000 : Int)).map encInt)]), .int .i64 0])) := by
  have h1 := c144 g (by omega)
  rw [h0] at h1
  have h2 := c193 g hl
  generalize hR : List.replicate g.levels.length (30000 : Int) = R at *
  have hlen : R.length = g.levels.length := by rw [← hR]; simp
  refine contract_of mix Tryz.func36 rfl rfl (by rw [Tryz.ntmps36]; exact Nat.le_of_ble_eq_true rfl) ?_; rw [Tryz.results36, Tryz.ntmps36]; simp only [argsE, Nat.reduceAdd]
  repeat' first
           | (with_reducible apply go_op)
           | (with_reducible apply go_next)
           | ((with_reducible (show evOp _ _ _ _ _ _)); first
             | (((with_reducible apply go_mv_int); rfl; rfl))
             | ((with_reducible apply go_as))
             | (((with_reducible apply go_ld_agg); rfl; rfl; rfl; rfl))
             | (((with_reducible apply go_cmp); rfl; rfl; rfl; rfl))
             | (((with_reducible apply go_fn_int); rfl; (exact h1); rfl))
             | (((with_reducible apply go_bx_agg); rfl; rfl; (exact Nat.le_of_ble_eq_true rfl); rfl; rfl))
             | (((with_reducible apply go_alloc); rfl; rfl; rfl)))
           | ((with_reducible (show evOps _ _ _ _ _ _)); first
             | (with_reducible apply go_nil))
           | ((with_reducible (show evG _ _ _ _ _)); first
             | (with_reducible apply go_seq)
             | (with_reducible apply go_region)
             | ((with_reducible apply go_cond_f); rfl; rfl)
             | (with_reducible apply go_skipc))
           | (with_reducible apply go_kseq)
  all_goals try (exfalso; omega)
  refine go_fn_agf (f := encInt) (l := R) (cs := encF5 g) (q := 5) (args' := [.agg (encGrid g), .clo (.func 75) [] []]) rfl h2 (fun _ => ⟨rfl, rfl⟩) rfl rfl rfl rfl rfl ?_
  repeat' first
           | (with_reducible apply go_op)
           | (with_reducible apply go_next)
           | ((with_reducible (show evOp _ _ _ _ _ _)); first
             | (((with_reducible apply go_mv_int); rfl; rfl))
             | ((with_reducible apply go_as))
             | (((with_reducible apply go_st_agg); rfl; rfl; rfl; rfl; rfl; rfl; rfl)))
           | ((with_reducible (show evOps _ _ _ _ _ _)); first
             | (with_reducible apply go_nil))
           | ((with_reducible (show evG _ _ _ _ _)); first
             | (with_reducible apply go_ret))
           | (with_reducible apply go_kseq)
  all_goals first
    | (exfalso; omega)
    | exact finK_ret (fin_agf2 (cs := encF5 g) (len := R.length) rfl rfl (by simp) rfl rfl rfl)
    | trace_state
end Go.Pv.Soil

open Go Go.Proofs Go.Pv
set_option maxHeartbeats 4000000
set_option maxRecDepth 100000
set_option linter.unusedSimpArgs false
set_option linter.unusedVariables false
namespace Go.Pv.Soil
def cenG (m : Grid) (k : Nat) : Geo.Pt := ⟨(centreE m k).x, (centreE m k).y⟩
noncomputable def wedV (q : Quay) (m : Grid) (k : Nat) : Int := if (wedgeE q (cenG m k)).2 = true then (wedgeE q (cenG m k)).1 else 30000
noncomputable def wedL (q : Quay) (m : Grid) (n i : Nat) : List Int := (List.range n).map fun k => if k < i then wedV q m k else 30000
theorem wed_0 (q : Quay) (m : Grid) (n : Nat) : List.replicate n (30000 : Int) = wedL q m n 0 := by
  apply List.ext_getElem <;> simp [wedL]
theorem wed_len {q : Quay} {m : Grid} {n i : Nat} : (wedL q m n i).length = n := by simp [wedL]
theorem wed_yes {q : Quay} {m : Grid} {n i : Nat} (h : (wedgeE q (cenG m i)).2 = true) : (wedL q m n i).set i (wedgeE q (cenG m i)).1 = wedL q m n (i + 1) := by
  apply List.ext_getElem
  · simp [wedL]
  · intro j h1 h2
    simp only [List.getElem_set, wedL, List.getElem_map, List.getElem_range]
    by_cases hj : i = j
    · subst hj; rw [if_pos rfl, if_pos (by omega), wedV, if_pos h]
    · rw [if_neg hj]
      by_cases hlt : j < i
      · rw [if_pos hlt, if_pos (by omega)]
      · rw [if_neg hlt, if_neg (by omega)]
theorem wed_no {q : Quay} {m : Grid} {n i : Nat} (h : (wedgeE q (cenG m i)).2 = false) : wedL q m n i = wedL q m n (i + 1) := by
  apply List.ext_getElem
  · simp [wedL]
  · intro j h1 h2
    simp only [wedL, List.getElem_map, List.getElem_range]
    by_cases hj : i = j
    · subst hj; rw [if_neg (by omega), if_pos (by omega), wedV, if_neg (by rw [h]; simp)]
    · by_cases hlt : j < i
      · rw [if_pos hlt, if_pos (by omega)]
      · rw [if_neg hlt, if_neg (by omega)]
end Go.Pv.Soil

open Go Go.Proofs Go.Pv
set_option maxHeartbeats 4000000
set_option maxRecDepth 100000
set_option linter.unusedSimpArgs false
set_option linter.unusedVariables false
namespace Go.Pv.Soil
theorem cen_ok {m : Grid} (h : OkGrid m) {i : Nat} (hi : i < m.levels.length) : Geo.ptOK (cenG m i) = true := by
  have hc := cell_bds h hi
  have hb := h.bds
  have he := h.ends
  have e1 := Int.mul_le_mul_of_nonneg_right (show (i : Int) % m.cols + 1 ≤ m.cols by omega) (show 0 ≤ m.side by omega)
  have e2 := Int.mul_le_mul_of_nonneg_right (show (i : Int) / m.cols + 1 ≤ m.rows by omega) (show 0 ≤ m.side by omega)
  rw [Int.add_mul, Int.one_mul] at e1 e2
  refine decide_eq_true ?_
  simp only [cenG, centreE]
  omega
theorem c127 (q : Quay) (hq : quayE q = 0) (m : Grid) (hm : OkGrid m) (h0 : gridE m = 0) (hl : m.levels.length ≤ 1000000000) : Contract Tryz.prog 8 [.agg (encQuay q), .agg (encGrid m)] (.ret (.tup [.agg (encF5 m ++ [.fr 1 ((wedL q m m.levels.length m.levels.length).map encInt)]), .int .i64 0])) := by
  have h1 := c168 q
  rw [hq] at h1
  have h2 := c169 m hl h0
  rw [wed_0 q m] at h2
  have hF : ScalF encInt 1 := fun _ => ⟨rfl, rfl⟩
  refine contract_of mix Tryz.func8 rfl rfl (by rw [Tryz.ntmps8]; exact Nat.le_of_ble_eq_true rfl) ?_; rw [Tryz.results8, Tryz.ntmps8]; simp only [argsE, Nat.reduceAdd]
  repeat' first
           | (with_reducible apply go_op)
           | (with_reducible apply go_next)
           | ((with_reducible (show evOp _ _ _ _ _ _)); first
             | (((with_reducible apply go_mv_int); rfl; rfl))
             | ((with_reducible apply go_as))
             | (((with_reducible apply go_ld_agg); rfl; rfl; rfl; rfl))
             | (((with_reducible apply go_cmp); rfl; rfl; rfl; rfl))
             | (((with_reducible apply go_fn_int); rfl; (exact h1); rfl))
             | (((with_reducible apply go_bx_agg); rfl; rfl; (exact Nat.le_of_ble_eq_true rfl); rfl; rfl))
             | (((with_reducible apply go_alloc); rfl; rfl; rfl)))
           | ((with_reducible (show evOps _ _ _ _ _ _)); first
             | (with_reducible apply go_nil))
           | ((with_reducible (show evG _ _ _ _ _)); first
             | (with_reducible apply go_seq)
             | (with_reducible apply go_region)
             | ((with_reducible apply go_cond_f); rfl; rfl)
             | (with_reducible apply go_skipc))
           | (with_reducible apply go_kseq)
  all_goals try (exfalso; omega)
  refine go_fn_agf2 (f := encInt) (l := wedL q m m.levels.length 0) (cs := encF5 m) (q := 5) (args' := [.agg (encGrid m)]) rfl h2 hF rfl rfl rfl rfl rfl rfl ?_
  repeat' first
           | (with_reducible apply go_op)
           | (with_reducible apply go_next)
           | ((with_reducible (show evOp _ _ _ _ _ _)); first
             | ((with_reducible (show evOp _ (.move _) _ _ _ _)) ; first | ((with_reducible apply go_mv_int); rfl; rfl) | ((with_reducible apply go_mv_tup); rfl; rfl))
             | ((with_reducible apply go_as))
             | (((with_reducible apply go_load_own); rfl; rfl; rfl; rfl))
             | (((with_reducible apply go_fieldAddr_own); rfl; rfl; rfl))
             | (((with_reducible apply go_cmp); rfl; rfl; rfl; rfl))
             | (((with_reducible apply go_len_own); rfl; rfl; rfl))
             | (((with_reducible apply go_st_agg); rfl; rfl; rfl; rfl; rfl; rfl; rfl))
             | (((with_reducible apply go_extract); rfl; rfl))
             | (((with_reducible apply go_alloc); rfl; rfl; rfl)))
           | ((with_reducible (show evOps _ _ _ _ _ _)); first
             | (with_reducible apply go_nil))
           | ((with_reducible (show evG _ _ _ _ _)); first
             | (with_reducible apply go_seq)
             | (with_reducible apply go_region)
             | ((with_reducible apply go_cond_f); rfl; rfl)
             | (with_reducible apply go_skipc)
             | (with_reducible apply go_block))
           | (with_reducible apply go_kseq)
  simp only [wed_len]
  refine go_count m.levels.length (fun i => ⟨[(30, .int .i64 i), (29, .int .i64 m.levels.length), (28, .os 4 0 m.levels.length), (2, .op 0 0 0), (3, .op 1 0 0), (4, .op 2 0 0), (7, .op 3 0 0)], [(0, ⟨7, true, [encQuay q]⟩), (1, ⟨6, true, [encGrid m]⟩), (2, ⟨6, false, [[.int .i64 0, .int .i64 0, .int .i64 0, .int .i64 0, .int .i64 0, .nilsl]]⟩), (3, ⟨6, false, [encF5 m ++ [.os 4 0 m.levels.length]]⟩), (4, ⟨1, true, (wedL q m m.levels.length i).map encInt⟩)], 32, 49⟩) (fun i => True)
    (entails_eq (nx := 32) (k := 0) (ns := []) (ks := [30, 29, 28, 2, 3, 4, 7]) [(0, 0), (32, 1), (64, 2), (448, 3), (325, 4)] rfl (by simp) (by kernel_rfl)) trivial ?_
  intro i hi _
  by_cases hlt : i < m.levels.length
  · have hle := wed_len (q := q) (m := m) (n := m.levels.length) (i := i)
    have y1 : Contract Tryz.prog 38 [.agg (encGrid m), .int .i64 i] (.ret (.agg (gP (cenG m i)))) := c101 m hm i hlt h0
    have y2 := c170 q hq (cenG m i) (cen_ok hm hlt)
    repeat' first
           | (with_reducible apply go_op)
           | (with_reducible apply go_next)
           | ((with_reducible (show evOp _ _ _ _ _ _)); first
             | ((with_reducible (show evOp _ (.move _) _ _ _ _)) ; first | ((with_reducible apply go_mv_int); rfl; rfl) | ((with_reducible apply go_mv_bool); rfl; rfl) | ((with_reducible apply go_mv_tup); rfl; rfl))
             | ((with_reducible apply go_as))
             | ((with_reducible (show evOp _ (.load _ _) _ _ _ _)) ; first | ((with_reducible apply go_ld_agg); rfl; rfl; rfl; rfl) | ((with_reducible apply go_load_own); rfl; rfl; rfl; rfl))
             | (((with_reducible apply go_fieldAddr_own); rfl; rfl; rfl))
             | (((with_reducible apply go_index_om); rfl; rfl; rfl; (with_reducible rfl); rfl; rfl; omega; (intro hlt)))
             | ((with_reducible (show evOp _ (.binOp _ _ _ _ _) _ _ _ _)) ; first | ((with_reducible apply go_cmp); rfl; rfl; rfl; rfl) | ((with_reducible apply go_add); rfl; rfl; rfl; omega))
             | ((with_reducible (show evOp _ (.call _) _ _ _ _)) ; first | ((with_reducible apply go_fn_plain); rfl; (exact y1); rfl; (exact Nat.le_of_ble_eq_true rfl); rfl) | ((with_reducible apply go_fn_plain); rfl; (exact y2); rfl; (exact Nat.le_of_ble_eq_true rfl); rfl))
             | (((with_reducible apply go_st_agg); rfl; rfl; rfl; rfl; rfl; rfl; rfl))
             | (((with_reducible apply go_extract); rfl; rfl)))
           | ((with_reducible (show evOps _ _ _ _ _ _)); first
             | (with_reducible apply go_nil)
             | ((with_reducible apply go_pre); rfl)
             | (with_reducible apply go_pre_nil)
             | ((with_reducible apply go_suf); rfl)
             | (with_reducible apply go_suf_nil))
           | ((with_reducible (show evG _ _ _ _ _)); first
             | (with_reducible apply go_seq)
             | (with_reducible apply go_region)
             | (((with_reducible apply go_cond); rfl) <;> (intro h; simp only [h]; try simp only [decide_eq_true_eq, decide_eq_false_iff_not, Bool.not_eq_true', Bool.not_eq_false', Bool.not_true, Bool.not_false] at h; try exact absurd trivial h))
             | ((with_reducible apply go_order); kernel_rfl; rfl)
             | (with_reducible apply go_ret)
             | (with_reducible apply go_skipc)
             | (with_reducible apply go_block)
             | (with_reducible apply go_exit))
           | (with_reducible apply go_kseq)
           | (with_reducible apply go_ksuf)
           | (with_reducible apply go_kblock)
           | (with_reducible apply go_kblock_exit)
           | (with_reducible apply go_kseq_exit)
    · refine go_store_om (f := encInt) (l := wedL q m m.levels.length i) (a := (wedgeE q (cenG m i)).1) rfl rfl rfl (by omega) rfl rfl rfl rfl (Nat.le_refl _) rfl ?_
      rw [wed_yes (n := m.levels.length) (by assumption)]
      repeat' first
           | (with_reducible apply go_op)
           | (with_reducible apply go_next)
           | ((with_reducible (show evOp _ _ _ _ _ _)); first
             | (((with_reducible apply go_mv_int); rfl; rfl))
             | (((with_reducible apply go_add); rfl; rfl; rfl; omega)))
           | ((with_reducible (show evOps _ _ _ _ _ _)); first
             | (with_reducible apply go_nil))
           | ((with_reducible (show evG _ _ _ _ _)); first
             | (with_reducible apply go_region))
           | (with_reducible apply go_kseq)
           | (with_reducible apply go_kblock)
      exact ⟨by omega, trivial, entails_eq (nx := 32) (k := 0) (ns := []) (ks := [30, 29, 28, 2, 3, 4, 7]) [(0, 0), (1, 1), (2, 2), (3, 3), (4, 4)] rfl (by simp) (by kernel_rfl)⟩
    · refine ⟨by omega, trivial, ?_⟩
      rw [wed_no (n := m.levels.length) (by assumption)]
      exact entails_eq (nx := 32) (k := 0) (ns := []) (ks := [30, 29, 28, 2, 3, 4, 7]) [(0, 0), (1, 1), (2, 2), (3, 3), (4, 4)] rfl (by simp) (by kernel_rfl)
    · exfalso; omega
  · have e : i = m.levels.length := by omega
    subst e
    repeat' first
           | (with_reducible apply go_op)
           | (with_reducible apply go_next)
           | ((with_reducible (show evOp _ _ _ _ _ _)); first
             | (((with_reducible apply go_mv_int); rfl; rfl))
             | ((with_reducible apply go_as))
             | (((with_reducible apply go_ld_agg); rfl; rfl; rfl; rfl))
             | (((with_reducible apply go_cmp); rfl; rfl; rfl; rfl))
             | (((with_reducible apply go_st_agg); rfl; rfl; rfl; rfl; rfl; rfl; rfl)))
           | ((with_reducible (show evOps _ _ _ _ _ _)); first
             | (with_reducible apply go_nil)
             | ((with_reducible apply go_pre); rfl))
           | ((with_reducible (show evG _ _ _ _ _)); first
             | (with_reducible apply go_seq)
             | (with_reducible apply go_region)
             | (((with_reducible apply go_cond); rfl) <;> (intro h; simp only [h]; try simp only [decide_eq_true_eq, decide_eq_false_iff_not, Bool.not_eq_true', Bool.not_eq_false', Bool.not_true, Bool.not_false] at h; try exact absurd trivial h))
             | ((with_reducible apply go_order); kernel_rfl; rfl)
             | (with_reducible apply go_ret)
             | (with_reducible apply go_skipc)
             | (with_reducible apply go_block)
             | (with_reducible apply go_exit))
           | (with_reducible apply go_kseq)
           | (with_reducible apply go_kblock_exit)
           | (with_reducible apply go_kseq_exit)
    all_goals first
      | (exfalso; omega)
      | exact finK_ret (fin_agf2 (cs := encF5 m) (len := m.levels.length) rfl rfl (by simp [wed_len]) rfl rfl rfl)
      | trace_state
end Go.Pv.Soil

open Go Go.Proofs Go.Pv
set_option maxHeartbeats 4000000
set_option maxRecDepth 100000
set_option linter.unusedSimpArgs false
set_option linter.unusedVariables false
namespace Go.Pv.Soil
/-- Does a cell undermine a quay, by the wedge's list? -/
noncomputable def undB (q : Quay) (m : Grid) (k : Nat) : Bool := decide (wedV q m k ≠ 30000) && (decide (m.levels.getD k 0 ≠ 30000) && decide (m.levels.getD k 0 < wedV q m k))
noncomputable def undL (q : Quay) (m : Grid) (i : Nat) : List Int := ((List.range i).filter (undB q m)).map fun k : Nat => (k : Int)
theorem und_len (q : Quay) (m : Grid) (i : Nat) : (undL q m i).length ≤ i := by
  have := List.length_filter_le (undB q m) (List.range i)
  simp only [undL, List.length_map, List.length_range] at *; omega
theorem und_yes {q : Quay} {m : Grid} {i : Nat} (h : undB q m i = true) : undL q m i ++ [(i : Int)] = undL q m (i + 1) := by
  simp [undL, List.range_succ, List.filter_append, h]
theorem und_no {q : Quay} {m : Grid} {i : Nat} (h : undB q m i = false) : undL q m i = undL q m (i + 1) := by
  simp [undL, List.range_succ, List.filter_append, h]
end Go.Pv.Soil

open Go Go.Proofs Go.Pv
set_option maxHeartbeats 4000000
set_option maxRecDepth 100000
set_option linter.unusedSimpArgs false
set_option linter.unusedVariables false
namespace Go.Pv.Soil
theorem wed_get {q : Quay} {m : Grid} {n i : Nat} (h : i < (wedL q m n n).length) : (wedL q m n n)[i] = wedV q m i := by
  have hi : i < n := by simpa [wedL] using h
  simp [wedL, hi]
theorem c72 (q : Quay) (hq : quayE q = 0) (m : Grid) (hm : OkGrid m) (h0 : gridE m = 0) (hl : m.levels.length ≤ 1000000000) : Contract Tryz.prog 9 [.agg (encQuay q), .agg (encGrid m)] (.ret (.tup [.fr 1 ((undL q m m.levels.length).map encInt), .int .i64 0])) := by
  have h1 := c127 q hq m hm h0 hl
  have hF : ScalF encInt 1 := fun _ => ⟨rfl, rfl⟩
  refine contract_of mix Tryz.func9 rfl rfl (by rw [Tryz.ntmps9]; exact Nat.le_of_ble_eq_true rfl) ?_; rw [Tryz.results9, Tryz.ntmps9]; simp only [argsE, Nat.reduceAdd]
  repeat' first
           | (with_reducible apply go_op)
           | (with_reducible apply go_next)
           | ((with_reducible (show evOp _ _ _ _ _ _)); first
             | ((with_reducible (show evOp _ (.move _) _ _ _ _)) ; first | ((with_reducible apply go_mv_int); rfl; rfl) | ((with_reducible apply go_mv_nilsl); rfl; rfl))
             | ((with_reducible apply go_as))
             | (((with_reducible apply go_ld_agg); rfl; rfl; rfl; rfl))
             | (((with_reducible apply go_bx_agg); rfl; rfl; (exact Nat.le_of_ble_eq_true rfl); rfl; rfl)))
           | ((with_reducible (show evOps _ _ _ _ _ _)); first
             | (with_reducible apply go_nil))
           | ((with_reducible (show evG _ _ _ _ _)); first
             | (with_reducible apply go_seq)
             | (with_reducible apply go_region))
           | (with_reducible apply go_kseq)
  refine go_fn_agf2 (f := encInt) (l := wedL q m m.levels.length m.levels.length) (cs := encF5 m) (q := 5) (args' := [.agg (encQuay q), .agg (encGrid m)]) rfl h1 hF rfl rfl rfl rfl rfl rfl ?_
  repeat' first
           | (with_reducible apply go_op)
           | (with_reducible apply go_next)
           | ((with_reducible (show evOp _ _ _ _ _ _)); first
             | ((with_reducible (show evOp _ (.move _) _ _ _ _)) ; first | ((with_reducible apply go_mv_int); rfl; rfl) | ((with_reducible apply go_mv_nilsl); rfl; rfl) | ((with_reducible apply go_mv_tup); rfl; rfl))
             | ((with_reducible apply go_as))
             | (((with_reducible apply go_load_own); rfl; rfl; rfl; rfl))
             | (((with_reducible apply go_fieldAddr_own); rfl; rfl; rfl))
             | (((with_reducible apply go_cmp); rfl; rfl; rfl; rfl))
             | (((with_reducible apply go_len_own); rfl; rfl; rfl))
             | (((with_reducible apply go_st_agg); rfl; rfl; rfl; rfl; rfl; rfl; rfl))
             | (((with_reducible apply go_extract); rfl; rfl))
             | (((with_reducible apply go_alloc); rfl; rfl; rfl)))
           | ((with_reducible (show evOps _ _ _ _ _ _)); first
             | (with_reducible apply go_nil))
           | ((with_reducible (show evG _ _ _ _ _)); first
             | (with_reducible apply go_seq)
             | (with_reducible apply go_region)
             | ((with_reducible apply go_cond_f); rfl; rfl)
             | (with_reducible apply go_skipc)
             | (with_reducible apply go_block))
           | (with_reducible apply go_kseq)
  all_goals try (exfalso; omega)
  simp only [wed_len]
  have hwl : (wedL q m m.levels.length m.levels.length).length = m.levels.length := wed_len
  have hwg := fun i h => wed_get (q := q) (m := m) (n := m.levels.length) (i := i) h
  clear h1
  generalize wedL q m m.levels.length m.levels.length = W at *
  refine go_count m.levels.length (fun i => ⟨[(8, .os 4 0 (undL q m i).length), (23, .int .i64 i), (22, .int .i64 m.levels.length), (21, .os 3 0 m.levels.length), (2, .op 0 0 0), (3, .op 1 0 0), (6, .op 2 0 0)], [(4, ⟨1, true, (undL q m i).map encInt⟩), (0, ⟨7, true, [encQuay q]⟩), (1, ⟨6, true, [encGrid m]⟩), (2, ⟨6, false, [encF5 m ++ [.os 3 0 m.levels.length]]⟩), (3, ⟨1, true, W.map encInt⟩)], 32, 50⟩) (fun i => True)
    (entails_eq (nx := 32) (k := 1) (ns := [(8, 4)]) (ks := [23, 22, 21, 2, 3, 6]) [(0, 0), (32, 1), (320, 2), (197, 3)] rfl (by intro p hp; obtain rfl : p = (8, 4) := (by simpa using hp); kernel_rfl) (by kernel_rfl)) trivial ?_
  intro i hi _
  by_cases hlt : i < m.levels.length
  · have hle := und_len q m i
    have y1 : Contract Tryz.prog 39 [.agg (encGrid m), .int .i64 i] (.ret (.bool (!decide (m.levels[i] = 30000)))) := c104 m i hlt
    have hb : undB q m i = (decide (wedV q m i ≠ 30000) && (decide (m.levels[i] ≠ 30000) && decide (m.levels[i] < wedV q m i))) := by
      unfold undB; rw [List.getD_eq_getElem?_getD, List.getElem?_eq_getElem hlt]; rfl
    have hw := hwg i (by omega)
    repeat' first
           | (with_reducible apply go_op)
           | (with_reducible apply go_next)
           | ((with_reducible (show evOp _ _ _ _ _ _)); first
             | ((with_reducible (show evOp _ (.move _) _ _ _ _)) ; first | ((with_reducible apply go_mv_int); rfl; rfl) | ((with_reducible apply go_mv_bool); rfl; rfl) | ((with_reducible apply go_mv_os); rfl; rfl))
             | ((with_reducible apply go_as))
             | ((with_reducible (show evOp _ (.load _ _) _ _ _ _)) ; first | ((with_reducible apply go_load_om); rfl; rfl; rfl; rfl; rotate_left; assumption) | ((with_reducible apply go_ld_agg); rfl; rfl; rfl; rfl) | ((with_reducible apply go_load); rfl; rfl; rfl) | ((with_reducible apply go_load_own); rfl; rfl; rfl; rfl))
             | (((with_reducible apply go_fieldAddr_own); rfl; rfl; rfl))
             | ((with_reducible (show evOp _ (.indexAddr _ _ _) _ _ _ _)) ; first | ((with_reducible apply go_index_nat); rfl; rfl; (with_reducible rfl); (intro; rfl); rfl; omega; (intro hlt)) | ((with_reducible apply go_index_om); rfl; rfl; rfl; (with_reducible rfl); rfl; rfl; omega; (intro hlt)))
             | ((with_reducible (show evOp _ (.binOp _ _ _ _ _) _ _ _ _)) ; first | ((with_reducible apply go_cmp); rfl; rfl; rfl; rfl) | ((with_reducible apply go_add); rfl; rfl; rfl; omega))
             | (((with_reducible apply go_fn_bool); rfl; (exact y1); rfl))
             | (((with_reducible apply go_pick); rfl; rfl; rfl))
             | (((with_reducible apply go_bs1_int); rfl; rfl; rfl)))
           | ((with_reducible (show evOps _ _ _ _ _ _)); first
             | (with_reducible apply go_nil)
             | ((with_reducible apply go_run); rfl; rfl)
             | ((with_reducible apply go_pass); rfl; rfl; rfl)
             | (((with_reducible apply go_guard); rfl) <;> (intro h; simp only [h, Bool.not_true, Bool.not_false]; (try with_reducible (refine ⟨rfl, ?_⟩)); try simp only [decide_eq_true_eq, decide_eq_false_iff_not, Bool.not_eq_true', Bool.not_eq_false', Bool.not_true, Bool.not_false] at h; try exact absurd trivial h)))
           | ((with_reducible (show evG _ _ _ _ _)); first
             | (with_reducible apply go_seq)
             | (with_reducible apply go_region)
             | ((with_reducible apply go_cond_f); rfl; rfl)
             | (((with_reducible apply go_cond); rfl) <;> (intro h; simp only [h]; try simp only [decide_eq_true_eq, decide_eq_false_iff_not, Bool.not_eq_true', Bool.not_eq_false', Bool.not_true, Bool.not_false] at h; try exact absurd trivial h))
             | (with_reducible apply go_ret)
             | (with_reducible apply go_skipc)
             | (with_reducible apply go_block)
             | (with_reducible apply go_exit))
           | (with_reducible apply go_kseq)
           | (with_reducible apply go_kblock)
           | (with_reducible apply go_kblock_exit)
           | (with_reducible apply go_kseq_exit)
    all_goals try (exfalso; omega)
    all_goals try
      (refine go_app_map (f := encInt) (a := (i : Int)) (l := undL q m i) hF rfl rfl rfl rfl rfl rfl (by kernel_rfl) (by kernel_rfl) (by omega) rfl ?_
       repeat' first
           | (with_reducible apply go_op)
           | (with_reducible apply go_next)
           | ((with_reducible (show evOp _ _ _ _ _ _)); first
             | ((with_reducible (show evOp _ (.move _) _ _ _ _)) ; first | ((with_reducible apply go_mv_int); rfl; rfl) | ((with_reducible apply go_mv_os); rfl; rfl))
             | ((with_reducible apply go_as))
             | (((with_reducible apply go_add); rfl; rfl; rfl; omega)))
           | ((with_reducible (show evOps _ _ _ _ _ _)); first
             | (with_reducible apply go_nil))
           | ((with_reducible (show evG _ _ _ _ _)); first
             | (with_reducible apply go_region))
           | (with_reducible apply go_kseq)
           | (with_reducible apply go_kblock))
    all_goals first
      | (have hsel : undB q m i = true := by
           rw [hb]; simp only [Bool.and_eq_true, decide_eq_true_eq]; omega
         have e := und_yes hsel
         have el : (undL q m i).length + 1 = (undL q m (i + 1)).length := by rw [← e]; simp
         refine ⟨by omega, trivial, ?_⟩
         rw [show ((i : Nat) : Int) = (i : Int) from rfl, e, el]
         exact entails_eq (nx := 32) (k := 1) (ns := []) (ks := [8, 23, 22, 21, 2, 3, 6]) [(4, 4), (0, 0), (1, 1), (2, 2), (3, 3)] rfl (by simp) (by kernel_rfl))
      | (have hsel : undB q m i = false := by
           rw [hb, ← hw]; simp only [Bool.and_eq_false_iff, decide_eq_false_iff_not, ne_eq]; omega
         refine ⟨by omega, trivial, ?_⟩
         rw [← und_no hsel]
         exact entails_eq (nx := 32) (k := 1) (ns := []) (ks := [8, 23, 22, 21, 2, 3, 6]) [(4, 4), (0, 0), (1, 1), (2, 2), (3, 3)] rfl (by simp) (by kernel_rfl))
      | trace_state
  · have e : i = m.levels.length := by omega
    subst e
    repeat' first
           | (with_reducible apply go_op)
           | (with_reducible apply go_next)
           | ((with_reducible (show evOp _ _ _ _ _ _)); first
             | ((with_reducible (show evOp _ (.move _) _ _ _ _)) ; first | ((with_reducible apply go_mv_int); rfl; rfl) | ((with_reducible apply go_mv_bool); rfl; rfl) | ((with_reducible apply go_mv_os); rfl; rfl))
             | ((with_reducible apply go_as))
             | ((with_reducible (show evOp _ (.load _ _) _ _ _ _)) ; first | ((with_reducible apply go_load_om); rfl; rfl; rfl; rfl; rotate_left; assumption) | ((with_reducible apply go_ld_agg); rfl; rfl; rfl; rfl))
             | (((with_reducible apply go_index_om); rfl; rfl; rfl; (with_reducible rfl); rfl; rfl; omega; (intro hlt)))
             | ((with_reducible (show evOp _ (.binOp _ _ _ _ _) _ _ _ _)) ; first | ((with_reducible apply go_cmp); rfl; rfl; rfl; rfl) | ((with_reducible apply go_add); rfl; rfl; rfl; omega))
             | (((with_reducible apply go_pick); rfl; rfl; rfl)))
           | ((with_reducible (show evOps _ _ _ _ _ _)); first
             | (with_reducible apply go_nil)
             | ((with_reducible apply go_run); rfl; rfl)
             | ((with_reducible apply go_pass); rfl; rfl; rfl)
             | (((with_reducible apply go_guard); rfl) <;> (intro h; simp only [h, Bool.not_true, Bool.not_false]; (try with_reducible (refine ⟨rfl, ?_⟩)); try simp only [decide_eq_true_eq, decide_eq_false_iff_not, Bool.not_eq_true', Bool.not_eq_false', Bool.not_true, Bool.not_false] at h; try exact absurd trivial h)))
           | ((with_reducible (show evG _ _ _ _ _)); first
             | (with_reducible apply go_seq)
             | (with_reducible apply go_region)
             | ((with_reducible apply go_cond_f); rfl; rfl)
             | (((with_reducible apply go_cond); rfl) <;> (intro h; simp only [h]; try simp only [decide_eq_true_eq, decide_eq_false_iff_not, Bool.not_eq_true', Bool.not_eq_false', Bool.not_true, Bool.not_false] at h; try exact absurd trivial h))
             | (with_reducible apply go_ret)
             | (with_reducible apply go_skipc)
             | (with_reducible apply go_block)
             | (with_reducible apply go_exit))
           | (with_reducible apply go_kseq)
           | (with_reducible apply go_kblock)
           | (with_reducible apply go_kblock_exit)
           | (with_reducible apply go_kseq_exit)
    all_goals first
      | (exfalso; omega)
      | exact finK_ret (fin_fr2 rfl (by simp) rfl rfl rfl)
      | trace_state
end Go.Pv.Soil

open Go Go.Proofs Go.Pv
set_option maxHeartbeats 4000000
set_option maxRecDepth 100000
set_option linter.unusedSimpArgs false
set_option linter.unusedVariables false
namespace Go.Pv.Geo
theorem c_rSpan (a b : Pt) (ha : ptOK a = true) (hb : ptOK b = true) : Contract Tryz.prog 84 [.agg (encPt a), .agg (encPt b)] (.ret (.int .i64 (spanE (sqE a b)))) := by
  have hbd := sqE_bd ha hb
  have hd := c_rsquare a b ha hb
  generalize sqE a b = s at *
  refine contract_of mix Tryz.func84 rfl rfl (by rw [Tryz.ntmps84]; exact Nat.le_of_ble_eq_true rfl) ?_; rw [Tryz.results84, Tryz.ntmps84]; simp only [argsE, Nat.reduceAdd]
  repeat' first
           | (with_reducible apply go_op)
           | (with_reducible apply go_next)
           | ((with_reducible (show evOp _ _ _ _ _ _)); first
             | (((with_reducible apply go_mv_int); rfl; rfl))
             | ((with_reducible apply go_as))
             | (((with_reducible apply go_bx_agg); rfl; rfl; (exact Nat.le_of_ble_eq_true rfl); rfl; rfl)))
           | ((with_reducible (show evOps _ _ _ _ _ _)); first
             | (with_reducible apply go_nil))
           | ((with_reducible (show evG _ _ _ _ _)); first
             | (with_reducible apply go_seq)
             | (with_reducible apply go_region)
             | (with_reducible apply go_block))
           | (with_reducible apply go_kseq)
  refine go_while (fun x : Int × Int => (x.2 - x.1).toNat) (fun x => ⟨[(5, .int .i64 x.1), (6, .int .i64 x.2), (2, .op 0 0 0), (3, .op 1 0 0)], [(0, ⟨2, true, [encPt a]⟩), (1, ⟨2, true, [encPt b]⟩)], 32, 26⟩) (fun x => (0 ≤ x.1 ∧ x.1 ≤ x.2 ∧ x.2 ≤ 4000000) ∧ s ≤ x.2 * x.2 ∧ ∀ m, 0 ≤ m → m < x.1 → m * m < s) (0, 4000000)
    (entails_eq (nx := 32) (k := 0) (ns := []) (ks := [5, 6, 2, 3]) [(0, 0), (32, 1)] rfl (by simp) (by kernel_rfl)) ⟨⟨by omega, by omega, by omega⟩, by omega, fun m h1 h2 => by omega⟩ ?_
  rintro ⟨lo, hi⟩ ⟨⟨h1, h2, h3⟩, h4, h5⟩
  simp only at h1 h2 h3 h4 h5
  have hmid : 0 ≤ (lo + hi) / 2 ∧ (lo + hi) / 2 ≤ 4000000 := by omega
  have hmm := sq_mono hmid.1 hmid.2
  have hmm0 := Int.mul_nonneg hmid.1 hmid.1
  repeat' first
           | (with_reducible apply go_op)
           | (with_reducible apply go_next)
           | ((with_reducible (show evOp _ _ _ _ _ _)); first
             | (((with_reducible apply go_mv_int); rfl; rfl))
             | ((with_reducible apply go_as))
             | (((with_reducible apply go_ld_agg); rfl; rfl; rfl; rfl))
             | ((with_reducible (show evOp _ (.binOp _ _ _ _ _) _ _ _ _)) ; first | ((with_reducible apply go_cmp); rfl; rfl; rfl; rfl) | ((with_reducible apply go_add); rfl; rfl; rfl; omega) | ((with_reducible apply go_mul); rfl; rfl; rfl; omega) | ((with_reducible apply go_quo_pos); rfl; rfl; rfl; omega))
             | (((with_reducible apply go_fn_int); rfl; (exact hd); rfl)))
           | ((with_reducible (show evOps _ _ _ _ _ _)); first
             | (with_reducible apply go_nil))
           | ((with_reducible (show evG _ _ _ _ _)); first
             | (with_reducible apply go_seq)
             | (with_reducible apply go_region)
             | (((with_reducible apply go_cond); rfl) <;> (intro h; simp only [h]; try simp only [decide_eq_true_eq, decide_eq_false_iff_not, Bool.not_eq_true', Bool.not_eq_false', Bool.not_true, Bool.not_false] at h; try exact absurd trivial h))
             | (with_reducible apply go_ret)
             | (with_reducible apply go_skipc)
             | (with_reducible apply go_block)
             | (with_reducible apply go_exit))
           | (with_reducible apply go_kseq)
           | (with_reducible apply go_kblock)
           | (with_reducible apply go_kblock_exit)
           | (with_reducible apply go_kseq_exit)
           | ((with_reducible apply end_int); rfl)
  all_goals first
    | exact ⟨(lo, (lo + hi) / 2), by simp only; omega, ⟨⟨by simp only; omega, by simp only; omega, by simp only; omega⟩, by simp only; omega, h5⟩, entails_eq (nx := 32) (k := 0) (ns := []) (ks := [5, 6, 2, 3]) [(0, 0), (1, 1)] rfl (by simp) (by kernel_rfl)⟩
    | exact ⟨((lo + hi) / 2 + 1, hi), by simp only; omega, ⟨⟨by simp only; omega, by simp only; omega, by simp only; omega⟩, h4, fun m hm1 hm2 => by have := sq_mono hm1 (show m ≤ (lo + hi) / 2 by simp only at hm2; omega); omega⟩, entails_eq (nx := 32) (k := 0) (ns := []) (ks := [5, 6, 2, 3]) [(0, 0), (1, 1)] rfl (by simp) (by kernel_rfl)⟩
    | (have he : lo = hi := by omega
       subst he
       exact (spanE_eq ⟨h1, h4, h5⟩).symm)
    | (exfalso; omega)
    | trace_state
theorem c_rOffset (a b p : Pt) (ha : ptOK a = true) (hb : ptOK b = true) (hp : ptOK p = true) (hne : eqP a b = false) : Contract Tryz.prog 85 [.agg (encPt a), .agg (encPt b), .agg (encPt p)] (.ret (.int .i64 (offE a b p))) := by
  have hx := c_rcross a b p ha hb hp
  have hs := c_rSpan a b ha hb
  have h1 := crossE_bd ha hb hp
  have hab := c_abs (crossE a b p) (by omega) (by omega)
  have h2 := span_pos (sq_pos hne) (sqE_bd ha hb).2
  have h3 := (span_is (sqE_bd ha hb).2).2
  have h4 := absE_nn (crossE a b p)
  have h5 := absE_le h1
  unfold offE
  refine contract_of mix Tryz.func85 rfl rfl (by rw [Tryz.ntmps85]; exact Nat.le_of_ble_eq_true rfl) ?_; rw [Tryz.results85, Tryz.ntmps85]; simp only [argsE, Nat.reduceAdd]
  repeat' first
           | (with_reducible apply go_op)
           | (with_reducible apply go_next)
           | ((with_reducible (show evOp _ _ _ _ _ _)); first
             | (((with_reducible apply go_mv_int); rfl; rfl))
             | ((with_reducible apply go_as))
             | (((with_reducible apply go_ld_agg); rfl; rfl; rfl; rfl))
             | (((with_reducible apply go_quo_pos); rfl; rfl; rfl; omega))
             | ((with_reducible (show evOp _ (.call _) _ _ _ _)) ; first | ((with_reducible apply go_fn_int); rfl; (exact hx); rfl) | ((with_reducible apply go_fn_int); rfl; (exact hs); rfl) | ((with_reducible apply go_fn_int); rfl; (exact hab); rfl))
             | (((with_reducible apply go_bx_agg); rfl; rfl; (exact Nat.le_of_ble_eq_true rfl); rfl; rfl)))
           | ((with_reducible (show evOps _ _ _ _ _ _)); first
             | (with_reducible apply go_nil)
             | ((with_reducible apply go_pre); rfl)
             | (with_reducible apply go_pre_nil)
             | ((with_reducible apply go_suf); rfl)
             | (with_reducible apply go_suf_nil))
           | ((with_reducible (show evG _ _ _ _ _)); first
             | (with_reducible apply go_seq)
             | (with_reducible apply go_region)
             | ((with_reducible apply go_order); kernel_rfl; rfl)
             | (with_reducible apply go_ret))
           | (with_reducible apply go_kseq)
           | (with_reducible apply go_ksuf)
           | ((with_reducible apply end_int); rfl)
           | (with_reducible rfl)
  all_goals trace_state
theorem c_floor (n m : Int) (hm : 0 < m) (hm' : m ≤ 1000000000000) (hn : -1000000000000000 ≤ n ∧ n ≤ 1000000000000000) : Contract Tryz.prog 117 [.int .i64 n, .int .i64 m] (.ret (.int .i64 (n / m))) := by
  have hd := c_mod n m hm hm' hn
  have e1 := Int.emod_nonneg n (show m ≠ 0 by omega)
  have e2 := Int.emod_lt_of_pos n hm
  have e3 : n - n % m = m * (n / m) := by have := Int.mul_ediv_add_emod n m; omega
  refine contract_of mix Tryz.func117 rfl rfl (by rw [Tryz.ntmps117]; exact Nat.le_of_ble_eq_true rfl) ?_; rw [Tryz.results117, Tryz.ntmps117]; simp only [argsE, Nat.reduceAdd]
  repeat' first
           | (with_reducible apply go_op)
           | (with_reducible apply go_next)
           | ((with_reducible (show evOp _ _ _ _ _ _)); first
             | (((with_reducible apply go_mv_int); rfl; rfl))
             | ((with_reducible apply go_as))
             | ((with_reducible (show evOp _ (.binOp _ _ _ _ _) _ _ _ _)) ; first | ((with_reducible apply go_sub); rfl; rfl; rfl; omega) | ((with_reducible apply go_quo_any); rfl; rfl; rfl; omega; omega))
             | (((with_reducible apply go_fn_int); rfl; (exact hd); rfl)))
           | ((with_reducible (show evOps _ _ _ _ _ _)); first
             | (with_reducible apply go_nil))
           | ((with_reducible (show evG _ _ _ _ _)); first
             | (with_reducible apply go_seq)
             | (with_reducible apply go_region)
             | (with_reducible apply go_ret))
           | (with_reducible apply go_kseq)
           | ((with_reducible apply end_int); rfl)
  rw [e3, Int.mul_tdiv_cancel_left _ (by omega)]
theorem c_rAlong (a b p : Pt) (ha : ptOK a = true) (hb : ptOK b = true) (hp : ptOK p = true) (hne : eqP a b = false) : Contract Tryz.prog 83 [.agg (encPt a), .agg (encPt b), .agg (encPt p)] (.ret (.int .i64 (alongE a b p))) := by
  have hx := c_rdot a b p ha hb hp
  have hs := c_rSpan a b ha hb
  have h1 := dotE_bd ha hb hp
  have h2 := span_pos (sq_pos hne) (sqE_bd ha hb).2
  have h3 := (span_is (sqE_bd ha hb).2).2
  have hf := c_floor (dotE a b p) (spanE (sqE a b)) h2 (by omega) (by omega)
  refine contract_of mix Tryz.func83 rfl rfl (by rw [Tryz.ntmps83]; exact Nat.le_of_ble_eq_true rfl) ?_; rw [Tryz.results83, Tryz.ntmps83]; simp only [argsE, Nat.reduceAdd]
  repeat' first
           | (with_reducible apply go_op)
           | (with_reducible apply go_next)
           | ((with_reducible (show evOp _ _ _ _ _ _)); first
             | (((with_reducible apply go_mv_int); rfl; rfl))
             | ((with_reducible apply go_as))
             | (((with_reducible apply go_ld_agg); rfl; rfl; rfl; rfl))
             | ((with_reducible (show evOp _ (.call _) _ _ _ _)) ; first | ((with_reducible apply go_fn_int); rfl; (exact hx); rfl) | ((with_reducible apply go_fn_int); rfl; (exact hs); rfl) | ((with_reducible apply go_fn_int); rfl; (exact hf); rfl))
             | (((with_reducible apply go_bx_agg); rfl; rfl; (exact Nat.le_of_ble_eq_true rfl); rfl; rfl)))
           | ((with_reducible (show evOps _ _ _ _ _ _)); first
             | (with_reducible apply go_nil)
             | ((with_reducible apply go_pre); rfl)
             | (with_reducible apply go_pre_nil)
             | ((with_reducible apply go_suf); rfl)
             | (with_reducible apply go_suf_nil))
           | ((with_reducible (show evG _ _ _ _ _)); first
             | (with_reducible apply go_seq)
             | (with_reducible apply go_region)
             | ((with_reducible apply go_order); kernel_rfl; rfl)
             | (with_reducible apply go_ret))
           | (with_reducible apply go_kseq)
           | (with_reducible apply go_ksuf)
           | ((with_reducible apply end_int); rfl)
  all_goals rfl
end Go.Pv.Geo

open Go Go.Proofs Go.Pv
set_option maxHeartbeats 2000000
set_option maxRecDepth 100000
set_option linter.unusedSimpArgs false
set_option linter.unusedVariables false
namespace Go.Pv.Soil

theorem c24 (g : Grid) : Contract Tryz.prog 7 [.agg (encGrid g)] (.ret (.bool (decide (g.levels.length ≤ 30)))) := by
  refine contract_of mix Tryz.func7 rfl rfl (by rw [Tryz.ntmps7]; exact Nat.le_of_ble_eq_true rfl) ?_; rw [Tryz.results7, Tryz.ntmps7]; simp only [argsE, Nat.reduceAdd]
  repeat' first
           | (with_reducible apply go_op)
           | (with_reducible apply go_next)
           | ((with_reducible (show evOp _ _ _ _ _ _)); first
             | (((with_reducible apply go_mv_bool); rfl; rfl))
             | ((with_reducible apply go_as))
             | (((with_reducible apply go_load_own); rfl; rfl; rfl; rfl))
             | (((with_reducible apply go_fieldAddr_own); rfl; rfl; rfl))
             | (((with_reducible apply go_cmp); rfl; rfl; rfl; rfl))
             | (((with_reducible apply go_len); rfl; rfl))
             | (((with_reducible apply go_bx_agg); rfl; rfl; (exact Nat.le_of_ble_eq_true rfl); rfl; rfl)))
           | ((with_reducible (show evOps _ _ _ _ _ _)); first
             | (with_reducible apply go_nil))
           | ((with_reducible (show evG _ _ _ _ _)); first
             | (with_reducible apply go_seq)
             | (with_reducible apply go_region)
             | (with_reducible apply go_ret))
           | (with_reducible apply go_kseq)
           | ((with_reducible apply end_bool); rfl)
  all_goals first | rfl | exact decide_eq_decide.2 (by omega)

/-- The first number of a list that is not 0, or 0. -/
def firstOf : List Int → Int
  | [] => 0
  | x :: l => if x ≠ 0 then x else firstOf l
theorem firstOf_at : ∀ {l : List Int} {i : Nat} (hi : i < l.length), l[i] ≠ 0 → (∀ j (hj : j < i), l[j] = 0) → firstOf l = l[i]
  | x :: l, 0, _, h, _ => by rw [firstOf, if_pos (by simpa using h)]; rfl
  | x :: l, i + 1, hi, h, hb => by
    rw [firstOf, if_neg (by simpa using hb 0 (by omega))]
    exact firstOf_at (l := l) (by simpa using hi) (by simpa using h) fun j hj => by simpa using hb (j + 1) (by omega)
theorem firstOf_none : ∀ {l : List Int}, (∀ j (hj : j < l.length), l[j] = 0) → firstOf l = 0
  | [], _ => rfl
  | x :: l, hb => by
    have h0 : x = 0 := hb 0 (by simp)
    rw [firstOf, if_neg (by simp [h0])]
    exact firstOf_none fun j hj => hb (j + 1) (by simpa using hj)

theorem c27 (l : List Int) (hl : l.length < 1000000000000) : Contract Tryz.prog 12 [.sl (l.map encInt)] (.ret (.int .i64 (firstOf l))) := by
  refine contract_of mix Tryz.func12 rfl rfl (by rw [Tryz.ntmps12]; exact Nat.le_of_ble_eq_true rfl) ?_; rw [Tryz.results12, Tryz.ntmps12]; simp only [argsE, Nat.reduceAdd]
  repeat' first
           | (with_reducible apply go_op)
           | (with_reducible apply go_next)
           | ((with_reducible (show evOp _ _ _ _ _ _)); first
             | (((with_reducible apply go_mv_int); rfl; rfl))
             | ((with_reducible apply go_as)))
           | ((with_reducible (show evOps _ _ _ _ _ _)); first
             | (with_reducible apply go_nil))
           | ((with_reducible (show evG _ _ _ _ _)); first
             | (with_reducible apply go_seq)
             | (with_reducible apply go_region)
             | (with_reducible apply go_block))
           | (with_reducible apply go_kseq)
  refine go_count (l.length) (fun i => ⟨[(3, .int .i64 i), (0, .sl (l.map encInt))], [], 0, 19⟩) (fun i => ∀ j (hj : j < i) (hj' : j < l.length), l[j] = 0) (entails_eq (k := 0) (ns := []) (ks := [3, 0]) [] rfl (by simp) rfl) (by omega) ?_
  intro i hi hC
  repeat' first
           | (with_reducible apply go_op)
           | (with_reducible apply go_next)
           | ((with_reducible (show evOp _ _ _ _ _ _)); first
             | ((with_reducible (show evOp _ (.move _) _ _ _ _)) ; first | ((with_reducible apply go_mv_int); rfl; rfl) | ((with_reducible apply go_mv_sl); rfl; rfl))
             | ((with_reducible apply go_as))
             | (((with_reducible apply go_load); rfl; rfl; rfl))
             | (((with_reducible apply go_index_nat); rfl; rfl; (with_reducible rfl); (intro; rfl); rfl; omega; (intro hlt)))
             | ((with_reducible (show evOp _ (.binOp _ _ _ _ _) _ _ _ _)) ; first | ((with_reducible apply go_cmp); rfl; rfl; rfl; rfl) | ((with_reducible apply go_add); rfl; rfl; rfl; omega))
             | (((with_reducible apply go_len); rfl; rfl)))
           | ((with_reducible (show evOps _ _ _ _ _ _)); first
             | (with_reducible apply go_nil))
           | ((with_reducible (show evG _ _ _ _ _)); first
             | (with_reducible apply go_seq)
             | (with_reducible apply go_region)
             | (((with_reducible apply go_cond); rfl) <;> (intro h; simp only [h]; try simp only [decide_eq_true_eq, decide_eq_false_iff_not, Bool.not_eq_true', Bool.not_eq_false', Bool.not_true, Bool.not_false] at h; try exact absurd trivial h))
             | (with_reducible apply go_ret)
             | (with_reducible apply go_skipc)
             | (with_reducible apply go_block)
             | (with_reducible apply go_exit))
           | (with_reducible apply go_kseq)
           | (with_reducible apply go_kseq_ret)
           | (with_reducible apply go_kblock)
           | (with_reducible apply go_kblock_ret)
           | (with_reducible apply go_kblock_exit)
           | (with_reducible apply go_kseq_exit)
           | ((with_reducible apply end_int); rfl)
  · have h2 : i < l.length := by omega
    exact (firstOf_at h2 h fun j hj => hC j hj (by omega)).symm
  · have h2 : i < l.length := by omega
    refine ⟨h2, fun j hj hj' => ?_, entails_eq (k := 0) (ns := []) (ks := [3, 0]) [] rfl (by simp) rfl⟩
    rcases Nat.lt_succ_iff_lt_or_eq.1 hj with h' | rfl
    · exact hC j h' hj'
    · exact h
  · exact (firstOf_none fun j hj => hC j (by omega) hj).symm

/-- The error of a ground and beds. -/
def griddedE (g : Ground) (l : List Grid) : Int :=
  if groundE g ≠ 0 then groundE g else if firstOf (l.map gridE) ≠ 0 then firstOf (l.map gridE) else match l with
    | a :: b :: _ => if alikeE a b = true then 0 else 10
    | _ => 0

theorem firstOf_map {l : List Grid} {i : Nat} (hi : i < l.length) (h : gridE l[i] ≠ 0) (hb : ∀ j (hj : j < i) (hj' : j < l.length), gridE l[j] = 0) : firstOf (l.map gridE) = gridE l[i] := by
  have := firstOf_at (l := l.map gridE) (i := i) (by simpa using hi) (by simpa using h) fun j hj => by simpa using hb j hj (by omega)
  simpa using this

theorem c93 (g : Ground) (hs : g.soils.length < 1000000000000) (hb : g.borings.length < 1000000000000) (l : List Grid) (hll : l.length < 1000000000000) (hla : ∀ x ∈ l, x.levels.length < 1000000000000) : Contract Tryz.prog 103 [.agg (encGround g), .sl (l.map encGrid)] (.ret (.int .i64 (griddedE g l))) := by
  refine contract_of mix Tryz.func103 rfl rfl (by rw [Tryz.ntmps103]; exact Nat.le_of_ble_eq_true rfl) ?_; rw [Tryz.results103, Tryz.ntmps103]; simp only [argsE, Nat.reduceAdd]
  repeat' first
           | (with_reducible apply go_op)
           | (with_reducible apply go_next)
           | ((with_reducible (show evOp _ _ _ _ _ _)); first
             | ((with_reducible (show evOp _ (.move _) _ _ _ _)) ; first | ((with_reducible apply go_mv_int); rfl; rfl) | ((with_reducible apply go_mv_sl); rfl; rfl))
             | ((with_reducible apply go_as))
             | (((with_reducible apply go_ld_agg); rfl; rfl; rfl; rfl))
             | (((with_reducible apply go_cmp); rfl; rfl; rfl; rfl))
             | ((with_reducible (show evOp _ (.call _) _ _ _ _)) ; first | ((with_reducible apply go_len); rfl; rfl) | ((with_reducible apply go_fn_int); rfl; (exact c22 g hs hb); rfl))
             | (((with_reducible apply go_bx_agg); rfl; rfl; (exact Nat.le_of_ble_eq_true rfl); rfl; rfl)))
           | ((with_reducible (show evOps _ _ _ _ _ _)); first
             | (with_reducible apply go_nil))
           | ((with_reducible (show evG _ _ _ _ _)); first
             | (with_reducible apply go_seq)
             | (with_reducible apply go_region)
             | (((with_reducible apply go_cond); rfl) <;> (intro h; simp only [h]; try simp only [decide_eq_true_eq, decide_eq_false_iff_not, Bool.not_eq_true', Bool.not_eq_false', Bool.not_true, Bool.not_false] at h; try exact absurd trivial h))
             | (with_reducible apply go_ret)
             | (with_reducible apply go_skipc)
             | (with_reducible apply go_block))
           | (with_reducible apply go_kseq)
           | (with_reducible apply go_kseq_ret)
           | ((with_reducible apply end_int); rfl)
  · simp [griddedE, h]
  have h0 : groundE g = 0 := by assumption
  refine go_count (l.length) (fun i => ⟨[(16, .int .i64 i), (15, .int .i64 l.length), (14, .sl (l.map encGrid)), (1, .sl (l.map encGrid))], [], 32, 39⟩) (fun i => ∀ j (hj : j < i) (hj' : j < l.length), gridE l[j] = 0) (entails_eq (k := 0) (ns := []) (ks := [16, 15, 14, 1]) [] rfl (by simp) rfl) (by omega) ?_
  intro i hi hC
  repeat' first
           | (with_reducible apply go_op)
           | (with_reducible apply go_next)
           | ((with_reducible (show evOp _ _ _ _ _ _)); first
             | ((with_reducible (show evOp _ (.move _) _ _ _ _)) ; first | ((with_reducible apply go_mv_int); rfl; rfl) | ((with_reducible apply go_mv_bool); rfl; rfl) | ((with_reducible apply go_mv_sl); rfl; rfl))
             | ((with_reducible apply go_as))
             | ((with_reducible (show evOp _ (.load _ _) _ _ _ _)) ; first | ((with_reducible apply go_ld_ptr); rfl; rfl; rfl) | ((with_reducible apply go_ld_agg); rfl; rfl; rfl; rfl))
             | ((with_reducible (show evOp _ (.indexAddr _ _ _) _ _ _ _)) ; first | ((with_reducible apply go_index_nat); rfl; rfl; (with_reducible rfl); (intro; rfl); rfl; omega; (intro hlt)) | ((with_reducible apply go_index); rfl; rfl; (intro; rfl); rfl; omega; intro hlt))
             | ((with_reducible (show evOp _ (.binOp _ _ _ _ _) _ _ _ _)) ; first | ((with_reducible apply go_cmp); rfl; rfl; rfl; rfl) | ((with_reducible apply go_add); rfl; rfl; rfl; omega))
             | ((with_reducible (show evOp _ (.call _) _ _ _ _)) ; first | ((with_reducible apply go_len); rfl; rfl) | ((with_reducible apply go_fn_int); rfl; (exact c144 _ (hla _ (List.getElem_mem _))); rfl) | ((with_reducible apply go_fn_bool); rfl; (exact c145 _ _); rfl))
             | (((with_reducible apply go_st_agg); rfl; rfl; rfl; rfl; rfl; rfl; rfl))
             | (((with_reducible apply go_not); rfl; rfl))
             | (((with_reducible apply go_pick); rfl; rfl; rfl))
             | (((with_reducible apply go_alloc); rfl; rfl; rfl)))
           | ((with_reducible (show evOps _ _ _ _ _ _)); first
             | (with_reducible apply go_nil)
             | ((with_reducible apply go_run); rfl; rfl)
             | ((with_reducible apply go_pass); rfl; rfl; rfl)
             | (((with_reducible apply go_guard); rfl) <;> (intro h; simp only [h, Bool.not_true, Bool.not_false]; (try with_reducible (refine ⟨rfl, ?_⟩)); try simp only [decide_eq_true_eq, decide_eq_false_iff_not, Bool.not_eq_true', Bool.not_eq_false', Bool.not_true, Bool.not_false] at h; try exact absurd trivial h))
             | ((with_reducible apply go_pre); rfl)
             | (with_reducible apply go_pre_nil)
             | ((with_reducible apply go_suf); rfl)
             | (with_reducible apply go_suf_nil))
           | ((with_reducible (show evG _ _ _ _ _)); first
             | (with_reducible apply go_seq)
             | (with_reducible apply go_region)
             | ((with_reducible apply go_cond_f); rfl; rfl)
             | (((with_reducible apply go_cond); rfl) <;> (intro h; simp only [h]; try simp only [decide_eq_true_eq, decide_eq_false_iff_not, Bool.not_eq_true', Bool.not_eq_false', Bool.not_true, Bool.not_false] at h; try exact absurd trivial h))
             | ((with_reducible apply go_order); kernel_rfl; rfl)
             | (with_reducible apply go_ret)
             | (with_reducible apply go_skipc)
             | (with_reducible apply go_block)
             | (with_reducible apply go_exit))
           | (with_reducible apply go_kseq)
           | (with_reducible apply go_ksuf)
           | (with_reducible apply go_kseq_ret)
           | (with_reducible apply go_kblock)
           | (with_reducible apply go_kblock_ret)
           | (with_reducible apply go_kblock_exit)
           | (with_reducible apply go_kseq_exit)
           | ((with_reducible apply end_int); rfl)
  · have h2 : i < l.length := by omega
    have e := firstOf_map h2 h fun j hj hj' => hC j hj hj'
    unfold griddedE
    rw [if_neg (by simp [h0]), if_pos (by rw [e]; exact h), e]
  · have h2 : i < l.length := by omega
    refine ⟨h2, fun j hj hj' => ?_, entails_eq (k := 0) (ns := []) (ks := [16, 15, 14, 1]) [] rfl (by simp) rfl⟩
    rcases Nat.lt_succ_iff_lt_or_eq.1 hj with h' | rfl
    · exact hC j h' hj'
    · exact h
  all_goals
    have e : firstOf (l.map gridE) = 0 := firstOf_none fun j hj => by
      rw [List.getElem_map]; exact hC j (by simp at hj; omega) _
    unfold griddedE
    rw [if_neg (by simp [h0]), if_neg (by simp [e])]
  · obtain ⟨a, b, r, rfl⟩ : ∃ a b r, l = a :: b :: r := by
      match l, hlt with
      | a :: b :: r, _ => exact ⟨a, b, r, rfl⟩
      | [a], h' => exact absurd h' (by simp)
    have h' : alikeE a b = false := h
    simp [h']
  · obtain ⟨a, b, r, rfl⟩ : ∃ a b r, l = a :: b :: r := by
      match l, hlt with
      | a :: b :: r, _ => exact ⟨a, b, r, rfl⟩
      | [a], h' => exact absurd h' (by simp)
    have h' : alikeE a b = true := h
    simp [h']
  · match l, h with
    | [], _ => rfl
    | [a], _ => rfl
    | a :: b :: r, h => exact absurd h (by simp; omega)
end Go.Pv.Soil

open Go Go.Proofs Go.Pv
set_option maxHeartbeats 2000000
set_option maxRecDepth 100000
set_option linter.unusedSimpArgs false
set_option linter.unusedVariables false
namespace Go.Pv.Soil

theorem c110 (n : Int) (h : -1000000000000000 ≤ n ∧ n ≤ 1000000000000000) : Contract Tryz.prog 120 [.int .i64 n] (.ret (.int .i64 n.natAbs)) := by
  refine contract_of mix Tryz.func120 rfl rfl (by rw [Tryz.ntmps120]; exact Nat.le_of_ble_eq_true rfl) ?_; rw [Tryz.results120, Tryz.ntmps120]; simp only [argsE, Nat.reduceAdd]
  repeat' first
           | (with_reducible apply go_op)
           | (with_reducible apply go_next)
           | ((with_reducible (show evOp _ _ _ _ _ _)); first
             | (((with_reducible apply go_mv_int); rfl; rfl))
             | ((with_reducible apply go_as))
             | (((with_reducible apply go_cmp); rfl; rfl; rfl; rfl))
             | (((with_reducible apply go_neg); rfl; rfl; omega)))
           | ((with_reducible (show evOps _ _ _ _ _ _)); first
             | (with_reducible apply go_nil))
           | ((with_reducible (show evG _ _ _ _ _)); first
             | (with_reducible apply go_seq)
             | (with_reducible apply go_region)
             | (((with_reducible apply go_cond); rfl) <;> (intro h; simp only [h]; try simp only [decide_eq_true_eq, decide_eq_false_iff_not, Bool.not_eq_true', Bool.not_eq_false', Bool.not_true, Bool.not_false] at h; try exact absurd trivial h))
             | (with_reducible apply go_ret)
             | (with_reducible apply go_skipc))
           | (with_reducible apply go_kseq)
           | (with_reducible apply go_kseq_ret)
           | ((with_reducible apply end_int); rfl)
  all_goals (simp at *; omega)

theorem c79 (a b : List Int) (ha : a.length < 1000000000000) : Contract Tryz.prog 17 [.sl (a.map encInt), .sl (b.map encInt)] (.ret (.bool (decide (a = b)))) := by
  refine contract_of mix Tryz.func17 rfl rfl (by rw [Tryz.ntmps17]; exact Nat.le_of_ble_eq_true rfl) ?_; rw [Tryz.results17, Tryz.ntmps17]; simp only [argsE, Nat.reduceAdd]
  repeat' first
           | (with_reducible apply go_op)
           | (with_reducible apply go_next)
           | ((with_reducible (show evOp _ _ _ _ _ _)); first
             | ((with_reducible (show evOp _ (.move _) _ _ _ _)) ; first | ((with_reducible apply go_mv_int); rfl; rfl) | ((with_reducible apply go_mv_bool); rfl; rfl) | ((with_reducible apply go_mv_sl); rfl; rfl))
             | ((with_reducible apply go_as))
             | (((with_reducible apply go_cmp); rfl; rfl; rfl; rfl))
             | (((with_reducible apply go_len); rfl; rfl)))
           | ((with_reducible (show evOps _ _ _ _ _ _)); first
             | (with_reducible apply go_nil))
           | ((with_reducible (show evG _ _ _ _ _)); first
             | (with_reducible apply go_seq)
             | (with_reducible apply go_region)
             | (((with_reducible apply go_cond); rfl) <;> (intro h; simp only [h]; try simp only [decide_eq_true_eq, decide_eq_false_iff_not, Bool.not_eq_true', Bool.not_eq_false', Bool.not_true, Bool.not_false] at h; try exact absurd trivial h))
             | (with_reducible apply go_ret)
             | (with_reducible apply go_skipc)
             | (with_reducible apply go_block))
           | (with_reducible apply go_kseq)
           | (with_reducible apply go_kseq_ret)
           | ((with_reducible apply end_bool); rfl)
  · symm; simp only [decide_eq_false_iff_not]; rintro rfl; exact h rfl
  · have hl : a.length = b.length := by omega
    refine go_count a.length (fun i => ⟨[(5, .int .i64 i), (0, .sl (a.map encInt)), (1, .sl (b.map encInt))], [], 0, 26⟩) (fun i => a.take i = b.take i) (entails_eq (k := 0) (ns := []) (ks := [5, 0, 1]) [] rfl (by simp) rfl) rfl ?_
    intro i hi hC
    repeat' first
           | (with_reducible apply go_op)
           | (with_reducible apply go_next)
           | ((with_reducible (show evOp _ _ _ _ _ _)); first
             | ((with_reducible (show evOp _ (.move _) _ _ _ _)) ; first | ((with_reducible apply go_mv_int); rfl; rfl) | ((with_reducible apply go_mv_bool); rfl; rfl) | ((with_reducible apply go_mv_sl); rfl; rfl))
             | ((with_reducible apply go_as))
             | (((with_reducible apply go_load); rfl; rfl; rfl))
             | (((with_reducible apply go_index_nat); rfl; rfl; (with_reducible rfl); (intro; rfl); rfl; omega; (intro hlt)))
             | ((with_reducible (show evOp _ (.binOp _ _ _ _ _) _ _ _ _)) ; first | ((with_reducible apply go_cmp); rfl; rfl; rfl; rfl) | ((with_reducible apply go_add); rfl; rfl; rfl; omega))
             | (((with_reducible apply go_len); rfl; rfl)))
           | ((with_reducible (show evOps _ _ _ _ _ _)); first
             | (with_reducible apply go_nil)
             | ((with_reducible apply go_pre); rfl)
             | (with_reducible apply go_pre_nil)
             | ((with_reducible apply go_suf); rfl)
             | (with_reducible apply go_suf_nil))
           | ((with_reducible (show evG _ _ _ _ _)); first
             | (with_reducible apply go_seq)
             | (with_reducible apply go_region)
             | (((with_reducible apply go_cond); rfl) <;> (intro h; simp only [h]; try simp only [decide_eq_true_eq, decide_eq_false_iff_not, Bool.not_eq_true', Bool.not_eq_false', Bool.not_true, Bool.not_false] at h; try exact absurd trivial h))
             | ((with_reducible apply go_order); kernel_rfl; rfl)
             | (with_reducible apply go_ret)
             | (with_reducible apply go_skipc)
             | (with_reducible apply go_block)
             | (with_reducible apply go_exit))
           | (with_reducible apply go_kseq)
           | (with_reducible apply go_ksuf)
           | (with_reducible apply go_kseq_ret)
           | (with_reducible apply go_kblock)
           | (with_reducible apply go_kblock_ret)
           | (with_reducible apply go_kblock_exit)
           | (with_reducible apply go_kseq_exit)
           | ((with_reducible apply end_bool); rfl)
    · try simp only [Int.toNat_natCast] at h
      symm
      simp only [decide_eq_false_iff_not]
      rintro rfl
      exact h rfl
    · have h2 : i < a.length := by omega
      have h3 : i < b.length := by omega
      try simp only [Int.toNat_natCast] at h
      refine ⟨by omega, ?_, entails_eq (k := 0) (ns := []) (ks := [5, 0, 1]) [] rfl (by simp) rfl⟩
      rw [List.take_succ_eq_append_getElem h2, List.take_succ_eq_append_getElem h3, hC, h]
    · have e : i = a.length := by omega
      subst e
      rw [List.take_of_length_le (Nat.le_refl _), List.take_of_length_le (by omega)] at hC
      simp [hC]

def sameE (a b : Grid) : Bool := alikeE a b && decide (a.levels = b.levels)
theorem c32 (a b : Grid) (ha : a.levels.length < 1000000000000) : Contract Tryz.prog 15 [.agg (encGrid a), .agg (encGrid b)] (.ret (.bool (sameE a b))) := by
  refine contract_of mix Tryz.func15 rfl rfl (by rw [Tryz.ntmps15]; exact Nat.le_of_ble_eq_true rfl) ?_; rw [Tryz.results15, Tryz.ntmps15]; simp only [argsE, Nat.reduceAdd]
  repeat' first
           | (with_reducible apply go_op)
           | (with_reducible apply go_next)
           | ((with_reducible (show evOp _ _ _ _ _ _)); first
             | (((with_reducible apply go_mv_bool); rfl; rfl))
             | ((with_reducible apply go_as))
             | (((with_reducible apply go_load_own); rfl; rfl; rfl; rfl))
             | (((with_reducible apply go_fieldAddr_own); rfl; rfl; rfl))
             | (((with_reducible apply go_cmp); rfl; rfl; rfl; rfl))
             | (((with_reducible apply go_fn_bool); rfl; (exact c79 _ _ ha); rfl))
             | (((with_reducible apply go_pick); rfl; rfl; rfl))
             | (((with_reducible apply go_bx_agg); rfl; rfl; (exact Nat.le_of_ble_eq_true rfl); rfl; rfl)))
           | ((with_reducible (show evOps _ _ _ _ _ _)); first
             | (with_reducible apply go_nil)
             | ((with_reducible apply go_run); rfl; rfl)
             | ((with_reducible apply go_pass); rfl; rfl; rfl)
             | (((with_reducible apply go_guard); rfl) <;> (intro h; simp only [h, Bool.not_true, Bool.not_false]; (try with_reducible (refine ⟨rfl, ?_⟩)); try simp only [decide_eq_true_eq, decide_eq_false_iff_not, Bool.not_eq_true', Bool.not_eq_false', Bool.not_true, Bool.not_false] at h; try exact absurd trivial h)))
           | ((with_reducible (show evG _ _ _ _ _)); first
             | (with_reducible apply go_seq)
             | (with_reducible apply go_region)
             | (with_reducible apply go_ret))
           | (with_reducible apply go_kseq)
           | ((with_reducible apply end_bool); rfl)
  all_goals simp [sameE, alikeE, *]

/-- Two cells side by side. -/
def besideE (g : Grid) (i k : Nat) : Bool := decide (((i : Int) % g.cols - (k : Int) % g.cols).natAbs + ((i : Int) / g.cols - (k : Int) / g.cols).natAbs = 1)
end Go.Pv.Soil

open Go Go.Proofs Go.Pv
set_option maxHeartbeats 2000000
set_option maxRecDepth 100000
set_option linter.unusedSimpArgs false
set_option linter.unusedVariables false
namespace Go.Pv.Soil

theorem scalInt : ScalF encInt 1 := fun _ => ⟨rfl, rfl⟩
/-- The cells beside a cell, of the first n cells. -/
def nearL (g : Grid) (i : Nat) : Nat → List Int
  | 0 => []
  | n + 1 => if besideE g i n = true then nearL g i n ++ [(n : Int)] else nearL g i n
theorem nearL_len (g : Grid) (i : Nat) : ∀ n, (nearL g i n).length ≤ n
  | 0 => Nat.le_refl _
  | n + 1 => by
    have := nearL_len g i n
    simp only [nearL]
    split <;> simp <;> omega

end Go.Pv.Soil

open Go Go.Proofs Go.Pv
set_option maxHeartbeats 2000000
set_option maxRecDepth 100000
set_option linter.unusedSimpArgs false
set_option linter.unusedVariables false
namespace Go.Pv.Soil

theorem idxOf_lt {α : Type} {p : α → Bool} {l : List α} (h : 0 ≤ idxOf p l) : (idxOf p l).toNat < l.length := by
  unfold idxOf at h ⊢
  split
  · rename_i i hi
    have := (List.findIdx?_eq_some_iff_getElem.1 hi).1
    simpa using this
  · rename_i hi
    rw [hi] at h
    exact absurd h (by decide)

/-- The slope of the soil of a layer. -/
def layRun (g : Ground) (b : Boring) (i : Nat) : Int := match g.soils[(ofName g.soils (laySoil b i)).toNat]? with
  | some s => s.a
  | none => 0
/-- The gentlest slope of the first n layers. -/
def runL (g : Ground) (b : Boring) : Nat → Int
  | 0 => 0
  | n + 1 => max (runL g b n) (layRun g b n)

theorem layRun_at {g : Ground} {b : Boring} (hb : OkBoring g.soils b) {i : Nat} (hi : i < b.layers.length) : ∃ (h1 : 0 ≤ ofName g.soils b.layers[i].soil) (h2 : (ofName g.soils b.layers[i].soil).toNat < g.soils.length), layRun g b i = (g.soils[(ofName g.soils b.layers[i].soil).toNat]).a := by
  have h1 := (hb.lay i hi).2.1
  have h2 : (ofName g.soils b.layers[i].soil).toNat < g.soils.length := idxOf_lt h1
  refine ⟨h1, h2, ?_⟩
  have e : laySoil b i = b.layers[i].soil := by simp only [laySoil, List.getElem?_eq_getElem hi]
  simp only [layRun, e]
  rw [List.getElem?_eq_getElem h2]

def runE (g : Ground) (n : Nat) : Int := match g.borings[n]? with
  | some b => runL g b b.layers.length
  | none => 0

end Go.Pv.Soil

open Go Go.Proofs Go.Pv
set_option maxHeartbeats 2000000
set_option maxRecDepth 100000
set_option linter.unusedSimpArgs false
set_option linter.unusedVariables false
namespace Go.Pv.Soil

theorem c146 (g : Ground) (hg : OkG g) (hs : g.soils.length < 1000000000000) (n : Nat) (hn : n < g.borings.length) : Contract Tryz.prog 136 [.agg (encGround g), .int .i64 n] (.ret (.int .i64 (runE g n))) := by
  have hb := hg.bor _ hn
  have hll := hb.len
  have hq := hg.n
  have e : runE g n = runL g g.borings[n] g.borings[n].layers.length := by simp only [runE, List.getElem?_eq_getElem hn]
  rw [e]
  refine contract_of mix Tryz.func136 rfl rfl (by rw [Tryz.ntmps136]; exact Nat.le_of_ble_eq_true rfl) ?_; rw [Tryz.results136, Tryz.ntmps136]; simp only [argsE, Nat.reduceAdd]
  repeat' first
           | (with_reducible apply go_op)
           | (with_reducible apply go_next)
           | ((with_reducible (show evOp _ _ _ _ _ _)); first
             | (((with_reducible apply go_mv_int); rfl; rfl))
             | ((with_reducible apply go_as))
             | ((with_reducible (show evOp _ (.load _ _) _ _ _ _)) ; first | ((with_reducible apply go_load); rfl; rfl; rfl) | ((with_reducible apply go_load_own); rfl; rfl; rfl; rfl))
             | ((with_reducible (show evOp _ (.fieldAddr _ _ _) _ _ _ _)) ; first | ((with_reducible apply go_fieldAddr); rfl; rfl) | ((with_reducible apply go_fieldAddr_own); rfl; rfl; rfl))
             | (((with_reducible apply go_index_nat); rfl; rfl; (with_reducible rfl); (intro; rfl); rfl; omega; (intro hlt)))
             | (((with_reducible apply go_len); rfl; rfl))
             | (((with_reducible apply go_bx_agg); rfl; rfl; (exact Nat.le_of_ble_eq_true rfl); rfl; rfl)))
           | ((with_reducible (show evOps _ _ _ _ _ _)); first
             | (with_reducible apply go_nil))
           | ((with_reducible (show evG _ _ _ _ _)); first
             | (with_reducible apply go_seq)
             | (with_reducible apply go_region)
             | (with_reducible apply go_block))
           | (with_reducible apply go_kseq)
  refine go_count (g.borings[n].layers.length) (fun i => ⟨[(16, .int .i64 i), (15, .int .i64 g.borings[n].layers.length), (14, .sl (g.borings[n].layers.map encLayer)), (5, .int .i64 (runL g g.borings[n] i)), (2, .op 0 0 0)], [(0, ⟨2, true, [encGround g]⟩)], 64, 36⟩) (fun i => True) (entails_eq (k := 0) (ns := []) (ks := [16, 15, 14, 5, 2]) [(0, 0)] rfl (by simp) rfl) trivial ?_
  intro i hi hC
  by_cases hlt : i < g.borings[n].layers.length
  · obtain ⟨h1, h2, h3⟩ := layRun_at hb hlt
    repeat' first
           | (with_reducible apply go_op)
           | (with_reducible apply go_next)
           | ((with_reducible (show evOp _ _ _ _ _ _)); first
             | (((with_reducible apply go_mv_int); rfl; rfl))
             | ((with_reducible apply go_as))
             | ((with_reducible (show evOp _ (.load _ _) _ _ _ _)) ; first | ((with_reducible apply go_ld_ptr); rfl; rfl; rfl) | ((with_reducible apply go_load); rfl; rfl; rfl) | ((with_reducible apply go_load_own); rfl; rfl; rfl; rfl))
             | ((with_reducible (show evOp _ (.fieldAddr _ _ _) _ _ _ _)) ; first | ((with_reducible apply go_fieldAddr); rfl; rfl) | ((with_reducible apply go_fieldAddr_own); rfl; rfl; rfl))
             | ((with_reducible (show evOp _ (.indexAddr _ _ _) _ _ _ _)) ; first | ((with_reducible apply go_index_nat); rfl; rfl; (with_reducible rfl); (intro; rfl); rfl; omega; (intro hlt)) | ((with_reducible apply go_index); rfl; rfl; (intro; rfl); rfl; omega; intro hlt))
             | ((with_reducible (show evOp _ (.binOp _ _ _ _ _) _ _ _ _)) ; first | ((with_reducible apply go_cmp); rfl; rfl; rfl; rfl) | ((with_reducible apply go_add); rfl; rfl; rfl; omega))
             | ((with_reducible (show evOp _ (.call _) _ _ _ _)) ; first | ((with_reducible apply go_max); rfl; rfl; rfl) | ((with_reducible apply go_fn_int); rfl; (exact c102 g.soils hs _); rfl))
             | (((with_reducible apply go_st_agg); rfl; rfl; rfl; rfl; rfl; rfl; rfl))
             | (((with_reducible apply go_alloc); rfl; rfl; rfl)))
           | ((with_reducible (show evOps _ _ _ _ _ _)); first
             | (with_reducible apply go_nil)
             | (with_reducible apply go_take)
             | (with_reducible apply go_take0)
             | (with_reducible apply go_drop)
             | (with_reducible apply go_drop0))
           | ((with_reducible (show evG _ _ _ _ _)); first
             | (with_reducible apply go_seq)
             | (with_reducible apply go_region)
             | (((with_reducible apply go_cond); rfl) <;> (intro h; simp only [h]; try simp only [decide_eq_true_eq, decide_eq_false_iff_not, Bool.not_eq_true', Bool.not_eq_false', Bool.not_true, Bool.not_false] at h; try exact absurd trivial h))
             | ((with_reducible apply (go_drawM 14)); decide +kernel; rfl)
             | (with_reducible apply go_ret)
             | (with_reducible apply go_skipc)
             | (with_reducible apply go_block)
             | (with_reducible apply go_exit))
           | (with_reducible apply go_kseq)
           | (with_reducible apply go_kblock)
           | (with_reducible apply go_kblock_exit)
           | (with_reducible apply go_kdrop)
           | (with_reducible apply go_kseq_exit)
           | ((with_reducible apply end_int); rfl)
    all_goals try exact absurd hlt (by omega)
    refine ⟨by omega, trivial, ?_⟩
    have e' : runL g g.borings[n] (i + 1) = max (runL g g.borings[n] i) (g.soils[(ofName g.soils g.borings[n].layers[i].soil).toNat]).a := by
      rw [← h3]; rfl
    rw [e']
    exact entails_eq (k := 0) (ns := []) (ks := [16, 15, 14, 5, 2]) [(0, 0)] rfl (by simp) rfl
  · have e : i = g.borings[n].layers.length := by omega
    subst e
    repeat' first
           | (with_reducible apply go_op)
           | (with_reducible apply go_next)
           | ((with_reducible (show evOp _ _ _ _ _ _)); first
             | (((with_reducible apply go_mv_int); rfl; rfl))
             | ((with_reducible apply go_as))
             | ((with_reducible (show evOp _ (.load _ _) _ _ _ _)) ; first | ((with_reducible apply go_ld_ptr); rfl; rfl; rfl) | ((with_reducible apply go_load_own); rfl; rfl; rfl; rfl))
             | (((with_reducible apply go_fieldAddr_own); rfl; rfl; rfl))
             | (((with_reducible apply go_index_nat); rfl; rfl; (with_reducible rfl); (intro; rfl); rfl; omega; (intro hlt)))
             | (((with_reducible apply go_cmp); rfl; rfl; rfl; rfl))
             | (((with_reducible apply go_st_agg); rfl; rfl; rfl; rfl; rfl; rfl; rfl))
             | (((with_reducible apply go_alloc); rfl; rfl; rfl)))
           | ((with_reducible (show evOps _ _ _ _ _ _)); first
             | (with_reducible apply go_nil)
             | (with_reducible apply go_take))
           | ((with_reducible (show evG _ _ _ _ _)); first
             | (with_reducible apply go_seq)
             | (with_reducible apply go_region)
             | (((with_reducible apply go_cond); rfl) <;> (intro h; simp only [h]; try simp only [decide_eq_true_eq, decide_eq_false_iff_not, Bool.not_eq_true', Bool.not_eq_false', Bool.not_true, Bool.not_false] at h; try exact absurd trivial h))
             | ((with_reducible apply (go_drawM 14)); decide +kernel; rfl)
             | (with_reducible apply go_ret)
             | (with_reducible apply go_skipc)
             | (with_reducible apply go_block)
             | (with_reducible apply go_exit))
           | (with_reducible apply go_kseq)
           | (with_reducible apply go_kblock_exit)
           | (with_reducible apply go_kseq_exit)
           | ((with_reducible apply end_int); rfl)
           | (with_reducible rfl)
    all_goals first | exact absurd ‹_› (by omega) | trace_state
end Go.Pv.Soil

open Go Go.Proofs Go.Pv
set_option maxHeartbeats 2000000
set_option maxRecDepth 100000
set_option linter.unusedSimpArgs false
set_option linter.unusedVariables false
namespace Go.Pv.Soil

theorem div_mod_of {a b q r : Int} (hb : 0 < b) (h : r + b * q = a) (h0 : 0 ≤ r) (h1 : r < b) : a / b = q ∧ a % b = r :=
  (Int.ediv_emod_unique hb).2 ⟨h, h0, h1⟩
theorem beside_iff (c i k : Int) (hc : 1 ≤ c) : (i % c - k % c).natAbs + (i / c - k / c).natAbs = 1 ↔ k = i - c ∨ (k = i - 1 ∧ 0 < i % c) ∨ (k = i + 1 ∧ i % c < c - 1) ∨ k = i + c := by
  have e1 := Int.emod_add_mul_ediv i c
  have e2 := Int.emod_add_mul_ediv k c
  have l1 := Int.emod_lt_of_pos i (b := c) (by omega)
  have l2 := Int.emod_lt_of_pos k (b := c) (by omega)
  have n1 := Int.emod_nonneg i (b := c) (by omega)
  have n2 := Int.emod_nonneg k (b := c) (by omega)
  constructor
  · intro h
    have : (i % c = k % c ∧ (k / c = i / c + 1 ∨ k / c = i / c - 1)) ∨ (i / c = k / c ∧ (k % c = i % c + 1 ∨ k % c = i % c - 1)) := by omega
    rcases this with ⟨h1, h2 | h2⟩ | ⟨h1, h2⟩
    · rw [h2, Int.mul_add] at e2; omega
    · rw [h2, Int.mul_sub] at e2; omega
    · rw [← h1] at e2; omega
  · intro h
    rcases h with h | ⟨h, h'⟩ | ⟨h, h'⟩ | h
    · obtain ⟨h1, h2⟩ := div_mod_of (a := k) (b := c) (q := i / c - 1) (r := i % c) (by omega) (by rw [Int.mul_sub]; omega) n1 l1
      omega
    · obtain ⟨h1, h2⟩ := div_mod_of (a := k) (b := c) (q := i / c) (r := i % c - 1) (by omega) (by omega) (by omega) (by omega)
      omega
    · obtain ⟨h1, h2⟩ := div_mod_of (a := k) (b := c) (q := i / c) (r := i % c + 1) (by omega) (by omega) (by omega) (by omega)
      omega
    · obtain ⟨h1, h2⟩ := div_mod_of (a := k) (b := c) (q := i / c + 1) (r := i % c) (by omega) (by rw [Int.mul_add]; omega) n1 l1
      omega
theorem besideE_iff (g : Grid) (hc : 1 ≤ g.cols) (i k : Nat) : besideE g i k = true ↔ ((k : Int) = i - g.cols ∨ ((k : Int) = i - 1 ∧ 0 < (i : Int) % g.cols) ∨ ((k : Int) = i + 1 ∧ (i : Int) % g.cols < g.cols - 1) ∨ (k : Int) = i + g.cols) := by
  rw [← beside_iff g.cols i k hc]; simp [besideE]

/-- The cells beside a cell: above, left, right, below. -/
def near4 (g : Grid) (i : Nat) : List Int :=
  (if g.cols ≤ i then [(i : Int) - g.cols] else []) ++ (if 0 < (i : Int) % g.cols then [(i : Int) - 1] else []) ++ (if (i : Int) % g.cols < g.cols - 1 then [(i : Int) + 1] else []) ++ (if (i : Int) + g.cols < g.levels.length then [(i : Int) + g.cols] else [])

theorem nearL_eq (g : Grid) (hc : 1 ≤ g.cols) (i : Nat) : ∀ n : Nat, nearL g i n =
    (if g.cols ≤ i ∧ (i : Int) - g.cols < n then [(i : Int) - g.cols] else []) ++ (if 0 < (i : Int) % g.cols ∧ (i : Int) - 1 < n then [(i : Int) - 1] else []) ++ (if (i : Int) % g.cols < g.cols - 1 ∧ (i : Int) + 1 < n then [(i : Int) + 1] else []) ++ (if (i : Int) + g.cols < n then [(i : Int) + g.cols] else [])
  | 0 => by
    have n1 := Int.emod_nonneg i (b := g.cols) (by omega)
    have n3 := Int.emod_lt_of_pos i (b := g.cols) (by omega)
    have n2 : 0 < (i : Int) % g.cols → 1 ≤ (i : Int) := by
      intro h
      by_cases h0 : i = 0
      · subst h0; simp at h
      · omega
    rw [if_neg (by omega), if_neg (by omega), if_neg (by omega), if_neg (by omega)]; rfl
  | n + 1 => by
    have ih := nearL_eq g hc i n
    have n1 := Int.emod_nonneg i (b := g.cols) (by omega)
    have n3 := Int.emod_lt_of_pos i (b := g.cols) (by omega)
    have n2 : 0 < (i : Int) % g.cols → 1 ≤ (i : Int) := by
      intro h
      by_cases h0 : i = 0
      · subst h0; simp at h
      · omega
    simp only [nearL, ih]
    have hbi := besideE_iff g hc i n
    generalize (i : Int) % g.cols = m at *
    by_cases hb : besideE g i n = true
    · rw [if_pos hb]
      rw [hbi] at hb
      rcases hb with hb | ⟨hb, hb'⟩ | ⟨hb, hb'⟩ | hb
      all_goals ((repeat' split) <;> first | (exfalso; omega) | (simp only [List.append_nil, List.nil_append, List.append_assoc, List.cons_append, List.cons.injEq, and_true, true_and]; omega) | (simp only [List.append_nil, List.nil_append, List.append_assoc, List.cons_append, hb]; done))
    · rw [if_neg hb]
      rw [hbi] at hb
      (repeat' split) <;> first | rfl | (exfalso; omega)

theorem near4_eq (g : Grid) (hc : 1 ≤ g.cols) (i : Nat) (hi : i < g.levels.length) (hw : (i : Int) % g.cols < g.cols - 1 → (i : Int) + 1 < g.levels.length) : nearL g i g.levels.length = near4 g i := by
  rw [nearL_eq g hc]
  unfold near4
  (repeat' split) <;> first | rfl | (exfalso; omega)

theorem c181 (g : Grid) (h : OkGrid g) (i : Nat) (hi : i < g.levels.length) : Contract Tryz.prog 173 [.agg (encGrid g), .int .i64 i] (.ret (.fr 1 ((nearL g i g.levels.length).map encInt))) := by
  have hb := h.bds
  have hc := cell_bds h hi
  have hs := h.small
  have hn := near4_eq g (by omega) i hi fun hw => by
    have h1 := Int.emod_add_mul_ediv (i : Int) g.cols
    have h2 := Int.mul_le_mul_of_nonneg_left (show (i : Int) / g.cols + 1 ≤ g.rows by omega) (show 0 ≤ g.cols by omega)
    rw [Int.mul_add] at h2
    have h3 := h.len
    omega
  refine contract_of mix Tryz.func173 rfl rfl (by rw [Tryz.ntmps173]; exact Nat.le_of_ble_eq_true rfl) ?_; rw [Tryz.results173, Tryz.ntmps173]; simp only [argsE, Nat.reduceAdd]
  repeat' first
           | (with_reducible apply go_op)
           | (with_reducible apply go_next)
           | ((with_reducible (show evOp _ _ _ _ _ _)); first
             | ((with_reducible (show evOp _ (.move _) _ _ _ _)) ; first | ((with_reducible apply go_mv_int); rfl; rfl) | ((with_reducible apply go_mv_nilsl); rfl; rfl))
             | ((with_reducible apply go_as))
             | (((with_reducible apply go_load_own); rfl; rfl; rfl; rfl))
             | (((with_reducible apply go_fieldAddr_own); rfl; rfl; rfl))
             | ((with_reducible (show evOp _ (.binOp _ _ _ _ _) _ _ _ _)) ; first | ((with_reducible apply go_cmp); rfl; rfl; rfl; rfl) | ((with_reducible apply go_add); rfl; rfl; rfl; omega) | ((with_reducible apply go_sub); rfl; rfl; rfl; omega) | ((with_reducible apply go_rem_pos); rfl; rfl; rfl; omega))
             | (((with_reducible apply go_len); rfl; rfl))
             | (((with_reducible apply go_bx_agg); rfl; rfl; (exact Nat.le_of_ble_eq_true rfl); rfl; rfl))
             | (((with_reducible apply go_bs1_int); rfl; rfl; rfl)))
           | ((with_reducible (show evOps _ _ _ _ _ _)); first
             | (with_reducible apply go_nil)
             | ((with_reducible apply go_pre); rfl)
             | (with_reducible apply go_pre_nil)
             | ((with_reducible apply go_suf); rfl)
             | (with_reducible apply go_suf_nil))
           | ((with_reducible (show evG _ _ _ _ _)); first
             | (with_reducible apply go_seq)
             | (with_reducible apply go_region)
             | (((with_reducible apply go_cond); rfl) <;> (intro h; simp only [h]; try simp only [decide_eq_true_eq, decide_eq_false_iff_not, Bool.not_eq_true', Bool.not_eq_false', Bool.not_true, Bool.not_false] at h; try exact absurd trivial h))
             | ((with_reducible apply go_order); kernel_rfl; rfl)
             | (with_reducible apply go_ret)
             | (with_reducible apply go_skipc))
           | (with_reducible apply go_kseq)
           | (with_reducible apply go_ksuf)
  all_goals try first
    | (refine go_append_new (go_app_nil (f := encInt) scalInt rfl rfl rfl rfl (by kernel_rfl) (by kernel_rfl)) rfl ?_)
    | (refine go_app_map (f := encInt) scalInt rfl rfl rfl rfl rfl rfl (by kernel_rfl) (by kernel_rfl) (by simp) rfl ?_)
  repeat' first
           | (with_reducible apply go_op)
           | (with_reducible apply go_next)
           | ((with_reducible (show evOp _ _ _ _ _ _)); first
             | ((with_reducible (show evOp _ (.move _) _ _ _ _)) ; first | ((with_reducible apply go_mv_int); rfl; rfl) | ((with_reducible apply go_mv_os); rfl; rfl))
             | ((with_reducible apply go_as))
             | (((with_reducible apply go_load_own); rfl; rfl; rfl; rfl))
             | (((with_reducible apply go_fieldAddr_own); rfl; rfl; rfl))
             | ((with_reducible (show evOp _ (.binOp _ _ _ _ _) _ _ _ _)) ; first | ((with_reducible apply go_cmp); rfl; rfl; rfl; rfl) | ((with_reducible apply go_add); rfl; rfl; rfl; omega) | ((with_reducible apply go_sub); rfl; rfl; rfl; omega) | ((with_reducible apply go_rem_pos); rfl; rfl; rfl; omega))
             | (((with_reducible apply go_len); rfl; rfl))
             | (((with_reducible apply go_bs1_int); rfl; rfl; rfl)))
           | ((with_reducible (show evOps _ _ _ _ _ _)); first
             | (with_reducible apply go_nil)
             | ((with_reducible apply go_pre); rfl)
             | (with_reducible apply go_pre_nil)
             | ((with_reducible apply go_suf); rfl)
             | (with_reducible apply go_suf_nil))
           | ((with_reducible (show evG _ _ _ _ _)); first
             | (with_reducible apply go_seq)
             | (with_reducible apply go_region)
             | (((with_reducible apply go_cond); rfl) <;> (intro h; simp only [h]; try simp only [decide_eq_true_eq, decide_eq_false_iff_not, Bool.not_eq_true', Bool.not_eq_false', Bool.not_true, Bool.not_false] at h; try exact absurd trivial h))
             | ((with_reducible apply go_order); kernel_rfl; rfl)
             | (with_reducible apply go_ret)
             | (with_reducible apply go_skipc))
           | (with_reducible apply go_kseq)
           | (with_reducible apply go_ksuf)
  all_goals try first
    | (refine go_append_new (go_app_nil (f := encInt) scalInt rfl rfl rfl rfl (by kernel_rfl) (by kernel_rfl)) rfl ?_)
    | (refine go_app_map (f := encInt) scalInt rfl rfl rfl rfl rfl rfl (by kernel_rfl) (by kernel_rfl) (by simp) rfl ?_)
  repeat' first
           | (with_reducible apply go_op)
           | (with_reducible apply go_next)
           | ((with_reducible (show evOp _ _ _ _ _ _)); first
             | ((with_reducible (show evOp _ (.move _) _ _ _ _)) ; first | ((with_reducible apply go_mv_int); rfl; rfl) | ((with_reducible apply go_mv_os); rfl; rfl))
             | ((with_reducible apply go_as))
             | (((with_reducible apply go_load_own); rfl; rfl; rfl; rfl))
             | (((with_reducible apply go_fieldAddr_own); rfl; rfl; rfl))
             | ((with_reducible (show evOp _ (.binOp _ _ _ _ _) _ _ _ _)) ; first | ((with_reducible apply go_cmp); rfl; rfl; rfl; rfl) | ((with_reducible apply go_add); rfl; rfl; rfl; omega) | ((with_reducible apply go_sub); rfl; rfl; rfl; omega) | ((with_reducible apply go_rem_pos); rfl; rfl; rfl; omega))
             | (((with_reducible apply go_len); rfl; rfl))
             | (((with_reducible apply go_bs1_int); rfl; rfl; rfl)))
           | ((with_reducible (show evOps _ _ _ _ _ _)); first
             | (with_reducible apply go_nil)
             | ((with_reducible apply go_pre); rfl)
             | (with_reducible apply go_pre_nil)
             | ((with_reducible apply go_suf); rfl)
             | (with_reducible apply go_suf_nil))
           | ((with_reducible (show evG _ _ _ _ _)); first
             | (with_reducible apply go_seq)
             | (with_reducible apply go_region)
             | (((with_reducible apply go_cond); rfl) <;> (intro h; simp only [h]; try simp only [decide_eq_true_eq, decide_eq_false_iff_not, Bool.not_eq_true', Bool.not_eq_false', Bool.not_true, Bool.not_false] at h; try exact absurd trivial h))
             | ((with_reducible apply go_order); kernel_rfl; rfl)
             | (with_reducible apply go_ret)
             | (with_reducible apply go_skipc))
           | (with_reducible apply go_kseq)
           | (with_reducible apply go_ksuf)
  all_goals try first
    | (refine go_append_new (go_app_nil (f := encInt) scalInt rfl rfl rfl rfl (by kernel_rfl) (by kernel_rfl)) rfl ?_)
    | (refine go_app_map (f := encInt) scalInt rfl rfl rfl rfl rfl rfl (by kernel_rfl) (by kernel_rfl) (by simp) rfl ?_)
  repeat' first
           | (with_reducible apply go_op)
           | (with_reducible apply go_next)
           | ((with_reducible (show evOp _ _ _ _ _ _)); first
             | ((with_reducible (show evOp _ (.move _) _ _ _ _)) ; first | ((with_reducible apply go_mv_int); rfl; rfl) | ((with_reducible apply go_mv_os); rfl; rfl))
             | ((with_reducible apply go_as))
             | (((with_reducible apply go_load_own); rfl; rfl; rfl; rfl))
             | (((with_reducible apply go_fieldAddr_own); rfl; rfl; rfl))
             | ((with_reducible (show evOp _ (.binOp _ _ _ _ _) _ _ _ _)) ; first | ((with_reducible apply go_cmp); rfl; rfl; rfl; rfl) | ((with_reducible apply go_add); rfl; rfl; rfl; omega))
             | (((with_reducible apply go_len); rfl; rfl))
             | (((with_reducible apply go_bs1_int); rfl; rfl; rfl)))
           | ((with_reducible (show evOps _ _ _ _ _ _)); first
             | (with_reducible apply go_nil))
           | ((with_reducible (show evG _ _ _ _ _)); first
             | (with_reducible apply go_seq)
             | (with_reducible apply go_region)
             | (((with_reducible apply go_cond); rfl) <;> (intro h; simp only [h]; try simp only [decide_eq_true_eq, decide_eq_false_iff_not, Bool.not_eq_true', Bool.not_eq_false', Bool.not_true, Bool.not_false] at h; try exact absurd trivial h))
             | (with_reducible apply go_ret)
             | (with_reducible apply go_skipc))
           | (with_reducible apply go_kseq)
  all_goals try first
    | (refine go_append_new (go_app_nil (f := encInt) scalInt rfl rfl rfl rfl (by kernel_rfl) (by kernel_rfl)) rfl ?_)
    | (refine go_app_map (f := encInt) scalInt rfl rfl rfl rfl rfl rfl (by kernel_rfl) (by kernel_rfl) (by simp) rfl ?_)
  repeat' first
           | (with_reducible apply go_op)
           | (with_reducible apply go_next)
           | ((with_reducible (show evOp _ _ _ _ _ _)); first
             | (((with_reducible apply go_mv_os); rfl; rfl))
             | ((with_reducible apply go_as)))
           | ((with_reducible (show evOps _ _ _ _ _ _)); first
             | (with_reducible apply go_nil))
           | ((with_reducible (show evG _ _ _ _ _)); first
             | (with_reducible apply go_seq)
             | (with_reducible apply go_region)
             | (with_reducible apply go_ret))
           | (with_reducible apply go_kseq)
  all_goals first
    | (refine end_frn rfl rfl rfl ?_; rw [hn]; unfold near4; simp [*]; done)
    | (have e : near4 g i = [] := by unfold near4; simp [*]
       rw [hn, e]; exact finK_ret (fin1_nil rfl))
    | trace_state
end Go.Pv.Soil

/- Beds that slump: the greatest stable bed on one side of a given one. Plain lists; no program in sight. -/
set_option linter.unusedVariables false
namespace Go.Pv.Soil

/-- The level of a cell; 30000 is unknown. -/
def lv (l : List Int) (i : Nat) : Int := l.getD i 30000
theorem lv_get {l : List Int} {i : Nat} (h : i < l.length) : lv l i = l[i] := by simp [lv, List.getD_eq_getElem?_getD, h]
theorem lv_set {l : List Int} {i : Nat} (hi : i < l.length) (v : Int) (j : Nat) : lv (l.set i v) j = if i = j then v else lv l j := by
  simp only [lv, List.getD_eq_getElem?_getD, List.getElem?_set]
  by_cases h : i = j
  · subst h; simp [hi]
  · simp [h]
theorem lv_ext {a b : List Int} (h : a.length = b.length) (hi : ∀ i, i < a.length → lv a i = lv b i) : a = b := by
  refine List.ext_getElem h fun i h1 h2 => ?_
  have := hi i h1
  rwa [lv_get h1, lv_get h2] at this

/-- Which cells are side by side, and how much they may differ. -/
structure Net where
  nb : Nat → Nat → Prop
  d : Nat → Nat → Int
structure Net.Ok (N : Net) (n : Nat) : Prop where
  sym : ∀ i k, N.nb i k → N.nb k i
  dsym : ∀ i k, N.d i k = N.d k i
  pos : ∀ i k, i < n → k < n → N.nb i k → 1 ≤ N.d i k
  irr : ∀ i, ¬ N.nb i i

def Stable (N : Net) (l : List Int) : Prop := ∀ i k, i < l.length → k < l.length → N.nb i k → lv l i ≠ 30000 → lv l k ≠ 30000 → lv l i - lv l k ≤ N.d i k
/-- The same cells are known, and none lies on the wrong side. -/
def Beyond (w : Int) (m s : List Int) : Prop := s.length = m.length ∧ ∀ i, i < m.length → (lv s i = 30000 ↔ lv m i = 30000) ∧ (lv m i ≠ 30000 → 0 ≤ (lv s i - lv m i) * w)
structure IsGS (N : Net) (w : Int) (m r : List Int) : Prop where
  below : Beyond w m r
  stable : Stable N r
  best : ∀ s, Beyond w m s → Stable N s → ∀ i, i < m.length → lv m i ≠ 30000 → 0 ≤ (lv s i - lv r i) * w
/-- On the way there. -/
structure Mid (N : Net) (w : Int) (m l : List Int) : Prop where
  below : Beyond w m l
  rng : ∀ i, i < l.length → lv l i ≠ 30000 → -20000 ≤ lv l i ∧ lv l i ≤ 20000
  best : ∀ s, Beyond w m s → Stable N s → ∀ i, i < m.length → lv m i ≠ 30000 → 0 ≤ (lv s i - lv l i) * w

theorem Mid.start {N : Net} {w : Int} {m : List Int} (h : ∀ i, i < m.length → lv m i ≠ 30000 → -20000 ≤ lv m i ∧ lv m i ≤ 20000) : Mid N w m m :=
  ⟨⟨rfl, fun i _ => ⟨Iff.rfl, fun _ => by simp⟩⟩, h, fun s hs _ i hi hk => (hs.2 i hi).2 hk⟩

theorem IsGS.uniq {N : Net} {w : Int} {m r r' : List Int} (hw : w = -1 ∨ w = 1) (h : IsGS N w m r) (h' : IsGS N w m r') : r = r' := by
  have l1 := h.below.1
  have l2 := h'.below.1
  refine lv_ext (by omega) fun i hi => ?_
  have a1 := h.below.2 i (by omega)
  have a2 := h'.below.2 i (by omega)
  by_cases hk : lv m i = 30000
  · rw [a1.1.2 hk, a2.1.2 hk]
  · have b1 := h.best r' h'.below h'.stable i (by omega) hk
    have b2 := h'.best r h.below h.stable i (by omega) hk
    rcases hw with rfl | rfl <;> omega

/-- Is a cell not too far from its neighbour against the way? -/
def Fits (N : Net) (w : Int) (l : List Int) (i k : Nat) : Prop := (lv l i - w * N.d i k - lv l k) * w ≤ 0

theorem stable_of_fits {N : Net} {w : Int} {n : Nat} (hN : N.Ok n) (hw : w = -1 ∨ w = 1) {l : List Int} (h : ∀ i k, i < l.length → k < l.length → N.nb i k → lv l i ≠ 30000 → lv l k ≠ 30000 → Fits N w l i k) : Stable N l := by
  intro i k hi hk hb h1 h2
  have e := hN.dsym i k
  rcases hw with rfl | rfl
  · have := h k i hk hi (hN.sym _ _ hb) h2 h1
    unfold Fits at this
    omega
  · have := h i k hi hk hb h1 h2
    unfold Fits at this
    omega
theorem fits_of_stable {N : Net} {w : Int} {n : Nat} (hN : N.Ok n) (hw : w = -1 ∨ w = 1) {l : List Int} (h : Stable N l) : ∀ i k, i < l.length → k < l.length → N.nb i k → lv l i ≠ 30000 → lv l k ≠ 30000 → Fits N w l i k := by
  intro i k hi hk hb h1 h2
  have e := hN.dsym i k
  unfold Fits
  rcases hw with rfl | rfl
  · have := h k i hk hi (hN.sym _ _ hb) h2 h1
    omega
  · have := h i k hi hk hb h1 h2
    omega

theorem Mid.done {N : Net} {w : Int} {m l : List Int} (h : Mid N w m l) (hs : Stable N l) : IsGS N w m l := ⟨h.below, hs, h.best⟩

/-- One cell moves as far as its neighbour lets it. -/
theorem Mid.step {N : Net} {w : Int} {n : Nat} (hN : N.Ok n) (hw : w = -1 ∨ w = 1) {m l : List Int} (hn : m.length = n) (h : Mid N w m l) {i k : Nat} (hi : i < l.length) (hk : k < l.length) (hb : N.nb i k) (h1 : lv l i ≠ 30000) (h2 : lv l k ≠ 30000)
    (hf : 0 < (lv l i - w * N.d i k - lv l k) * w) : Mid N w m (l.set k (lv l i - w * N.d i k)) := by
  have hl := h.below.1
  have d1 := hN.pos i k (by omega) (by omega) hb
  have r1 := h.rng i hi h1
  have r2 := h.rng k hk h2
  refine ⟨⟨by simp [hl], fun j hj => ?_⟩, fun j hj hu => ?_, fun s hs hst j hj hu => ?_⟩
  · have b := h.below.2 j hj
    rw [lv_set hk]
    split
    · rename_i e
      subst e
      refine ⟨⟨fun e => ?_, fun e => absurd (b.1.2 e) h2⟩, fun hu => ?_⟩
      · rcases hw with rfl | rfl <;> omega
      · have := b.2 hu
        rcases hw with rfl | rfl <;> omega
    · exact b
  · rw [List.length_set] at hj
    rw [lv_set hk] at hu ⊢
    split
    · rcases hw with rfl | rfl <;> omega
    · rename_i e
      rw [if_neg e] at hu
      exact h.rng j hj hu
  · have b := h.best s hs hst j hj hu
    rw [lv_set hk]
    split
    · rename_i e
      subst e
      have hki := h.below.2 i (by omega)
      have hui : lv m i ≠ 30000 := fun e => h1 (hki.1.2 e)
      have si := hs.2 i (by omega)
      have sk := hs.2 k (by omega)
      have bi := h.best s hs hst i (by omega) hui
      have hlen := hs.1
      have := fits_of_stable hN hw hst i k (by omega) (by omega) hb (fun e => hui (si.1.1 e)) (fun e => hu (sk.1.1 e))
      unfold Fits at this
      rcases hw with rfl | rfl <;> omega
    · exact b

/-- What is left to move. -/
def left (w : Int) (l : List Int) : Nat := (l.map fun x => (40000 - x * w).toNat).sum
/-- What has moved. -/
def total (w : Int) (l : List Int) : Int := (l.map (· * w)).sum

theorem left_set (w v : Int) : ∀ (l : List Int) (k : Nat), k < l.length → left w (l.set k v) + (40000 - lv l k * w).toNat = left w l + (40000 - v * w).toNat
  | a :: l, 0, _ => by simp only [left, List.set_cons_zero, List.map_cons, List.sum_cons, lv, List.getD_cons_zero]; omega
  | a :: l, k + 1, h => by
    have := left_set w v l k (by simpa using h)
    simp only [left, List.set_cons_succ, List.map_cons, List.sum_cons, lv, List.getD_cons_succ] at this ⊢
    omega
theorem total_set (w v : Int) : ∀ (l : List Int) (k : Nat), k < l.length → total w (l.set k v) + lv l k * w = total w l + v * w
  | a :: l, 0, _ => by simp only [total, List.set_cons_zero, List.map_cons, List.sum_cons, lv, List.getD_cons_zero]; omega
  | a :: l, k + 1, h => by
    have := total_set w v l k (by simpa using h)
    simp only [total, List.set_cons_succ, List.map_cons, List.sum_cons, lv, List.getD_cons_succ] at this ⊢
    omega

theorem left_step {N : Net} {w : Int} {n : Nat} (hN : N.Ok n) (hw : w = -1 ∨ w = 1) {m l : List Int} (hn : m.length = n) (h : Mid N w m l) {i k : Nat} (hi : i < l.length) (hk : k < l.length) (hb : N.nb i k) (h1 : lv l i ≠ 30000) (h2 : lv l k ≠ 30000)
    (hf : 0 < (lv l i - w * N.d i k - lv l k) * w) : left w (l.set k (lv l i - w * N.d i k)) < left w l := by
  have hl := h.below.1
  have d1 := hN.pos i k (by omega) (by omega) hb
  have r1 := h.rng i hi h1
  have r2 := h.rng k hk h2
  have := left_set w (lv l i - w * N.d i k) l k hk
  rcases hw with rfl | rfl <;> omega

theorem exists_gs {N : Net} {w : Int} {n : Nat} (hN : N.Ok n) (hw : w = -1 ∨ w = 1) {m : List Int} (hn : m.length = n) : ∀ (t : Nat) (l : List Int), left w l = t → Mid N w m l → ∃ r, IsGS N w m r ∧ Mid N w m r := by
  intro t
  induction t using Nat.strongRecOn with
  | ind t ih =>
    intro l ht h
    by_cases hs : Stable N l
    · exact ⟨l, h.done hs, h⟩
    · have : ∃ i k, i < l.length ∧ k < l.length ∧ N.nb i k ∧ lv l i ≠ 30000 ∧ lv l k ≠ 30000 ∧ ¬ Fits N w l i k := by
        refine Classical.byContradiction fun hc => hs (stable_of_fits hN hw fun i k a b c d e => Classical.byContradiction fun hf => hc ⟨i, k, a, b, c, d, e, hf⟩)
      obtain ⟨i, k, hi, hk, hb, h1, h2, hf⟩ := this
      have hf' : 0 < (lv l i - w * N.d i k - lv l k) * w := by unfold Fits at hf; omega
      exact ih _ (ht ▸ left_step hN hw hn h hi hk hb h1 h2 hf') _ rfl (h.step hN hw hn hi hk hb h1 h2 hf')

theorem gs_exists {N : Net} {w : Int} {n : Nat} (hN : N.Ok n) (hw : w = -1 ∨ w = 1) {m : List Int} (hn : m.length = n) (h : ∀ i, i < m.length → lv m i ≠ 30000 → -20000 ≤ lv m i ∧ lv m i ≤ 20000) : ∃ r, IsGS N w m r ∧ Mid N w m r :=
  exists_gs hN hw hn _ m rfl (Mid.start h)
theorem gs_rng {N : Net} {w : Int} (hw : w = -1 ∨ w = 1) {m r : List Int} (hN : N.Ok m.length) (h : ∀ i, i < m.length → lv m i ≠ 30000 → -20000 ≤ lv m i ∧ lv m i ≤ 20000) (hr : IsGS N w m r) : Mid N w m r := by
  obtain ⟨r', h1, h2⟩ := gs_exists hN hw rfl h
  rw [hr.uniq hw h1]
  exact h2

/-- A stable bed ends at itself. -/
theorem gs_self {N : Net} {w : Int} {m : List Int} (hs : Stable N m) : IsGS N w m m :=
  ⟨⟨rfl, fun i _ => ⟨Iff.rfl, fun _ => by simp⟩⟩, hs, fun s hs _ i hi hk => (hs.2 i hi).2 hk⟩

/-- The moved sum of a bed beyond another one is not negative. -/
theorem total_beyond {w : Int} (hw : w = -1 ∨ w = 1) : ∀ {m s : List Int}, Beyond w m s → total w m ≤ total w s
  | [], [], _ => by simp [total]
  | [], _ :: _, h => absurd h.1 (by simp)
  | _ :: _, [], h => absurd h.1 (by simp)
  | a :: m, b :: s, h => by
    have h0 := h.2 0 (by simp)
    have ht : Beyond w m s := ⟨by simpa using h.1, fun i hi => by simpa [lv] using h.2 (i + 1) (by simpa using hi)⟩
    have := total_beyond hw ht
    simp only [lv, List.getD_cons_zero] at h0
    simp only [total, List.map_cons, List.sum_cons] at this ⊢
    by_cases ha : a = 30000
    · have := h0.1.2 ha
      subst ha; subst this; omega
    · have := h0.2 ha
      rcases hw with rfl | rfl <;> omega
end Go.Pv.Soil

/- Beds that slump: the work list, passes over all pairs, proofs, and beds turned over. No program in sight. -/
set_option linter.unusedVariables false
namespace Go.Pv.Soil

theorem Fits.mono {N : Net} {w : Int} {l l' : List Int} {i k : Nat} (hw : w = -1 ∨ w = 1) (h : Fits N w l i k) (hi : lv l' i = lv l i) (hk : 0 ≤ (lv l' k - lv l k) * w) : Fits N w l' i k := by
  unfold Fits at h ⊢
  rw [hi]
  rcases hw with rfl | rfl <;> omega

/-- The work list. -/
structure Work (N : Net) (w : Int) (m l : List Int) (mv : Int) (q : List Int) : Prop where
  mid : Mid N w m l
  mv : mv = total w l - total w m
  qs : ∀ x ∈ q, ∃ k : Nat, k < m.length ∧ x = k
  fits : ∀ i k, i < l.length → k < l.length → N.nb i k → lv l i ≠ 30000 → lv l k ≠ 30000 → (i : Int) ∉ q → Fits N w l i k
  size : q.length + left w l ≤ m.length + left w m
/-- The work list while a cell's neighbours are looked at. -/
structure WorkIn (N : Net) (w : Int) (m l : List Int) (mv : Int) (q : List Int) (i : Nat) (done : Nat → Prop) : Prop where
  mid : Mid N w m l
  mv : mv = total w l - total w m
  qs : ∀ x ∈ q, ∃ k : Nat, k < m.length ∧ x = k
  fits : ∀ a k, a < l.length → k < l.length → N.nb a k → lv l a ≠ 30000 → lv l k ≠ 30000 → (a : Int) ∉ q → a ≠ i → Fits N w l a k
  own : ∀ k, k < l.length → N.nb i k → lv l k ≠ 30000 → done k → Fits N w l i k
  size : q.length + left w l < m.length + left w m
  known : i < l.length ∧ lv l i ≠ 30000

theorem Work.enter {N : Net} {w : Int} {m l : List Int} {mv : Int} {q : List Int} {i : Nat} (h : Work N w m l mv ((i : Int) :: q)) (hk : lv l i ≠ 30000) : WorkIn N w m l mv q i fun _ => False := by
  have hi : i < l.length := by
    obtain ⟨k, hk, e⟩ := h.qs i (by simp)
    have := h.mid.below.1
    omega
  refine ⟨h.mid, h.mv, fun x hx => h.qs x (by simp [hx]), fun a k a1 a2 a3 a4 a5 a6 a7 => h.fits a k a1 a2 a3 a4 a5 ?_, fun _ _ _ _ hf => hf.elim, ?_, hi, hk⟩
  · simp only [List.mem_cons, not_or]
    exact ⟨by omega, a6⟩
  · have := h.size
    simp only [List.length_cons] at this
    omega
theorem Work.skip {N : Net} {w : Int} {m l : List Int} {mv : Int} {q : List Int} {i : Nat} (h : Work N w m l mv ((i : Int) :: q)) (hk : lv l i = 30000) : Work N w m l mv q := by
  refine ⟨h.mid, h.mv, fun x hx => h.qs x (by simp [hx]), fun a k a1 a2 a3 a4 a5 a6 => h.fits a k a1 a2 a3 a4 a5 ?_, ?_⟩
  · simp only [List.mem_cons, not_or]
    refine ⟨fun e => ?_, a6⟩
    have : a = i := by omega
    subst this
    exact a4 hk
  · have := h.size
    simp only [List.length_cons] at this
    omega
theorem WorkIn.leave {N : Net} {w : Int} {m l : List Int} {mv : Int} {q : List Int} {i : Nat} {done : Nat → Prop} (h : WorkIn N w m l mv q i done) (hd : ∀ k, k < l.length → N.nb i k → done k) : Work N w m l mv q := by
  refine ⟨h.mid, h.mv, h.qs, fun a k a1 a2 a3 a4 a5 a6 => ?_, by have := h.size; omega⟩
  by_cases e : a = i
  · subst e; exact h.own k a2 a3 a5 (hd k a2 a3)
  · exact h.fits a k a1 a2 a3 a4 a5 a6 e
/-- A neighbour that is unknown, or fits. -/
theorem WorkIn.pass {N : Net} {w : Int} {m l : List Int} {mv : Int} {q : List Int} {i k : Nat} {done : Nat → Prop} (h : WorkIn N w m l mv q i done) (hf : lv l k ≠ 30000 → Fits N w l i k) : WorkIn N w m l mv q i (fun x => done x ∨ x = k) := by
  refine ⟨h.mid, h.mv, h.qs, h.fits, fun b b1 b2 b3 b4 => ?_, h.size, h.known⟩
  rcases b4 with b4 | rfl
  · exact h.own b b1 b2 b3 b4
  · exact hf b3
/-- A neighbour that moves. -/
theorem WorkIn.move {N : Net} {w : Int} (hw : w = -1 ∨ w = 1) {m l : List Int} {mv : Int} {q : List Int} {i k : Nat} {done : Nat → Prop} (hN : N.Ok m.length) (h : WorkIn N w m l mv q i done) (hk : k < l.length) (hb : N.nb i k) (hu : lv l k ≠ 30000) (hf : 0 < (lv l i - w * N.d i k - lv l k) * w) :
    WorkIn N w m (l.set k (lv l i - w * N.d i k)) (mv + (lv l i - w * N.d i k - lv l k) * w) (q ++ [(k : Int)]) i (fun x => done x ∨ x = k) := by
  have hki : i ≠ k := fun e => hN.irr i (by rw [e] at hb ⊢; exact hb)
  have hmid := h.mid.step hN hw rfl h.known.1 hk hb h.known.2 hu hf
  have hl := h.mid.below.1
  have e1 : ∀ a, a ≠ k → lv (l.set k (lv l i - w * N.d i k)) a = lv l a := fun a ha => by rw [lv_set hk, if_neg (fun e => ha e.symm)]
  have e2 : lv (l.set k (lv l i - w * N.d i k)) k = lv l i - w * N.d i k := by rw [lv_set hk, if_pos rfl]
  have e3 : ∀ b, 0 ≤ (lv (l.set k (lv l i - w * N.d i k)) b - lv l b) * w := fun b => by
    by_cases hb : b = k
    · subst hb; rw [e2]; omega
    · rw [e1 b hb]; simp
  have e4 : ∀ b, b < l.length → lv (l.set k (lv l i - w * N.d i k)) b ≠ 30000 → lv l b ≠ 30000 := fun b hb hx => by
    by_cases hbk : b = k
    · subst hbk; exact hu
    · rwa [e1 b hbk] at hx
  refine ⟨hmid, ?_, fun x hx => ?_, fun a b a1 a2 a3 a4 a5 a6 a7 => ?_, fun b b1 b2 b3 b4 => ?_, ?_, ?_⟩
  · have := total_set w (lv l i - w * N.d i k) l k hk
    rw [h.mv, Int.sub_mul]
    omega
  · rcases List.mem_append.1 hx with hx | hx
    · exact h.qs x hx
    · simp only [List.mem_singleton] at hx
      exact ⟨k, by omega, hx⟩
  · rw [List.length_set] at a1 a2
    simp only [List.mem_append, List.mem_singleton, not_or] at a6
    have hak : a ≠ k := by omega
    exact (h.fits a b a1 a2 a3 (e4 a a1 a4) (e4 b a2 a5) a6.1 a7).mono hw (e1 a hak) (e3 b)
  · rw [List.length_set] at b1
    rcases b4 with b4 | rfl
    · exact (h.own b b1 b2 (e4 b b1 b3) b4).mono hw (e1 i hki) (e3 b)
    · unfold Fits
      rw [e1 i hki, e2]
      simp
  · have := left_step hN hw rfl h.mid h.known.1 hk hb h.known.2 hu hf
    have := h.size
    simp only [List.length_append, List.length_cons, List.length_nil]
    omega
  · rw [List.length_set, e1 i hki]
    exact h.known
theorem Work.done {N : Net} {w : Int} (hw : w = -1 ∨ w = 1) {m l : List Int} {mv : Int} (hN : N.Ok m.length) (h : Work N w m l mv []) : IsGS N w m l :=
  h.mid.done (stable_of_fits hN hw fun i k a b c d e => h.fits i k a b c d e (by simp))
theorem Work.start {N : Net} {w : Int} {m : List Int} {q : List Int} (hm : ∀ i, i < m.length → lv m i ≠ 30000 → -20000 ≤ lv m i ∧ lv m i ≤ 20000) (hl : q.length ≤ m.length) (hq : ∀ i, i < m.length → (i : Int) ∈ q) (hq' : ∀ x ∈ q, ∃ k : Nat, k < m.length ∧ x = k) : Work N w m m 0 q :=
  ⟨Mid.start hm, by omega, hq', fun i k h1 _ _ _ _ h6 => absurd (hq i h1) h6, by omega⟩

/-- A pass over pairs: a cell moves as far as its neighbour lets it, if it must. -/
theorem Mid.try {N : Net} {w : Int} (hw : w = -1 ∨ w = 1) {m l : List Int} (hN : N.Ok m.length) (h : Mid N w m l) {i k : Nat} (hi : i < l.length) (hk : k < l.length) (hb : N.nb i k) (h1 : lv l i ≠ 30000) (h2 : lv l k ≠ 30000) {v : Int} (hv : v = if 0 < (lv l i - w * N.d i k - lv l k) * w then lv l i - w * N.d i k else lv l k) :
    Mid N w m (l.set k v) ∧ left w (l.set k v) ≤ left w l ∧ (0 < (lv l i - w * N.d i k - lv l k) * w → left w (l.set k v) < left w l) := by
  subst hv
  split
  · rename_i hf
    have := left_step hN hw rfl h hi hk hb h1 h2 hf
    exact ⟨h.step hN hw rfl hi hk hb h1 h2 hf, by omega, fun _ => this⟩
  · rename_i hf
    have e : l.set k (lv l k) = l := by rw [lv_get hk]; exact List.set_getElem_self hk
    rw [e]
    exact ⟨h, Nat.le_refl _, fun h => absurd h hf⟩

/-- The proof of a slumped bed: what is lower is held by a neighbour. -/
def Held (N : Net) (m a : List Int) : Prop := ∀ i, i < m.length → lv m i ≠ 30000 → lv a i ≠ lv m i → ∃ k, k < m.length ∧ N.nb i k ∧ lv a k ≠ 30000 ∧ lv a i = lv a k + N.d i k

theorem gs_of_held {N : Net} {m r a : List Int} (hN : N.Ok m.length) (hr : IsGS N (-1) m r) (hb : Beyond (-1) m a) (hs : Stable N a) (hh : Held N m a) (ha : ∀ i, i < a.length → lv a i ≠ 30000 → -20000 ≤ lv a i) : a = r := by
  have l1 := hr.below.1
  have l2 := hb.1
  have key : ∀ (t : Nat) (i : Nat), i < m.length → lv m i ≠ 30000 → (lv a i + 20000).toNat = t → lv r i ≤ lv a i := by
    intro t
    induction t using Nat.strongRecOn with
    | ind t ih =>
      intro i hi hk ht
      refine Classical.byContradiction fun hc => ?_
      have b1 := hr.below.2 i hi
      have b2 := hb.2 i hi
      have hka : lv a i ≠ 30000 := fun e => hk (b2.1.1 e)
      obtain ⟨k, k1, k2, k3, k4⟩ := hh i hi hk (by have := b1.2 hk; omega)
      have hp := hN.pos i k hi k1 k2
      have b3 := hb.2 k k1
      have b4 := hr.below.2 k k1
      have hmk : lv m k ≠ 30000 := fun e => k3 (b3.1.2 e)
      have r1 := ha i (by omega) hka
      have r2 := ha k (by omega) k3
      have := ih (lv a k + 20000).toNat (by omega) k k1 hmk rfl
      have := hr.stable i k (by omega) (by omega) k2 (fun e => hk (b1.1.1 e)) (fun e => hmk (b4.1.1 e))
      omega
  refine lv_ext (by omega) fun i hi => ?_
  by_cases hk : lv m i = 30000
  · rw [(hr.below.2 i (by omega)).1.2 hk, (hb.2 i (by omega)).1.2 hk]
  · have := key _ i (by omega) hk rfl
    have := hr.best a hb hs i (by omega) hk
    omega

theorem held_of_gs {N : Net} {m r : List Int} (hN : N.Ok m.length) (hr : IsGS N (-1) m r) (hm : ∀ i, i < m.length → lv m i ≠ 30000 → lv m i ≤ 20000) : Held N m r := by
  have l1 := hr.below.1
  intro i hi hk hne
  refine Classical.byContradiction fun hc => ?_
  have b1 := hr.below.2 i hi
  have hki : lv r i ≠ 30000 := fun e => hk (b1.1.1 e)
  have hlt : lv r i + 1 ≤ lv m i := by have := b1.2 hk; omega
  have hm1 := hm i hi hk
  have hir : i < r.length := by omega
  have e1 : ∀ a, a ≠ i → lv (r.set i (lv r i + 1)) a = lv r a := fun a ha => by rw [lv_set hir, if_neg (fun e => ha e.symm)]
  have e2 : lv (r.set i (lv r i + 1)) i = lv r i + 1 := by rw [lv_set hir, if_pos rfl]
  have hB : Beyond (-1) m (r.set i (lv r i + 1)) := by
    refine ⟨by simp [l1], fun j hj => ?_⟩
    by_cases e : j = i
    · subst e
      rw [e2]
      exact ⟨⟨fun h => by omega, fun h => absurd h hk⟩, fun _ => by omega⟩
    · rw [e1 j e]
      exact hr.below.2 j hj
  have hS : Stable N (r.set i (lv r i + 1)) := by
    intro a b ha hb hab ka kb
    rw [List.length_set] at ha hb
    by_cases ea : a = i
    · subst ea
      by_cases eb : b = a
      · subst eb; exact (hN.irr _ hab).elim
      · rw [e1 b eb] at kb ⊢
        rw [e2]
        have := hr.stable a b ha hb hab hki kb
        have : lv r a ≠ lv r b + N.d a b := fun h => hc ⟨b, by omega, hab, kb, h⟩
        omega
    · rw [e1 a ea] at ka ⊢
      by_cases eb : b = i
      · subst eb
        rw [e2]
        have := hr.stable a b ha hb hab ka hki
        omega
      · rw [e1 b eb] at kb ⊢
        exact hr.stable a b ha hb hab ka kb
  have := hr.best _ hB hS i hi hk
  rw [e2] at this
  omega

/-- A bed turned over. -/
def turn (l : List Int) : List Int := l.map fun x => if x = 30000 then x else -x
theorem lv_turn {l : List Int} {i : Nat} (h : i < l.length) : lv (turn l) i = if lv l i = 30000 then 30000 else -lv l i := by
  rw [lv_get (by simpa [turn] using h), lv_get h]
  simp only [turn, List.getElem_map]
  split <;> simp [*]
def Far (l : List Int) : Prop := ∀ i, i < l.length → lv l i ≠ -30000
theorem turn_known {l : List Int} (hf : Far l) {i : Nat} (h : i < l.length) : lv (turn l) i = 30000 ↔ lv l i = 30000 := by
  rw [lv_turn h]
  have := hf i h
  split
  · simp [*]
  · constructor <;> intro h <;> omega
theorem turn_turn {l : List Int} (hf : Far l) : turn (turn l) = l := by
  refine lv_ext (by simp [turn]) fun i hi => ?_
  have hi' : i < l.length := by simpa [turn] using hi
  have h1 := lv_turn (l := turn l) (i := i) (by simpa [turn] using hi')
  have h2 := lv_turn hi'
  have h3 := turn_known hf hi'
  have h4 := hf i hi'
  rw [h1]
  by_cases h : lv l i = 30000
  · rw [if_pos (h3.2 h), h]
  · rw [if_neg (fun e => h (h3.1 e)), h2, if_neg h]; omega
theorem stable_turn {N : Net} {n : Nat} (hN : N.Ok n) {l : List Int} (hf : Far l) (h : Stable N l) : Stable N (turn l) := by
  intro i k hi hk hb h1 h2
  have hi' : i < l.length := by simpa [turn] using hi
  have hk' : k < l.length := by simpa [turn] using hk
  rw [Ne, turn_known hf hi'] at h1
  rw [Ne, turn_known hf hk'] at h2
  rw [lv_turn hi', lv_turn hk', if_neg h1, if_neg h2]
  have := h k i hk' hi' (hN.sym _ _ hb) h2 h1
  have := hN.dsym i k
  omega
theorem beyond_turn {w : Int} (hw : w = -1 ∨ w = 1) {m s : List Int} (hm : Far m) (hs : Far s) (h : Beyond w m s) : Beyond (-w) (turn m) (turn s) := by
  refine ⟨by simpa [turn] using h.1, fun i hi => ?_⟩
  have hi' : i < m.length := by simpa [turn] using hi
  have hl := h.1
  have b := h.2 i hi'
  rw [turn_known hm hi', turn_known hs (by omega)]
  refine ⟨b.1, fun hk0 => ?_⟩
  have hk : lv m i ≠ 30000 := fun e => hk0 ((turn_known hm hi').2 e)
  have hk' : lv s i ≠ 30000 := fun e => hk (b.1.1 e)
  rw [lv_turn hi', lv_turn (by omega), if_neg hk, if_neg hk']
  have := b.2 hk
  rcases hw with rfl | rfl <;> omega
theorem gs_turn {N : Net} {m r : List Int} (hN : N.Ok m.length) (hm : ∀ i, i < m.length → lv m i ≠ 30000 → -20000 ≤ lv m i ∧ lv m i ≤ 20000) (hr : IsGS N 1 m r) : IsGS N (-1) (turn m) (turn r) := by
  have fm : Far m := fun i hi e => by have := hm i hi (by omega); omega
  have hlt : (turn m).length = m.length := by simp [turn]
  have hm' : ∀ i, i < (turn m).length → lv (turn m) i ≠ 30000 → -20000 ≤ lv (turn m) i ∧ lv (turn m) i ≤ 20000 := fun i hi hk => by
    rw [hlt] at hi
    have h1 : lv m i ≠ 30000 := fun e => hk ((turn_known fm hi).2 e)
    have := hm i hi h1
    rw [lv_turn hi, if_neg h1]
    omega
  obtain ⟨r', h1, h2⟩ := gs_exists (hlt.symm ▸ hN) (.inl rfl) rfl hm'
  have fr : Far r' := fun i hi e => by have := h2.rng i hi (by omega); omega
  have hb : Beyond 1 m (turn r') := by
    have := beyond_turn (.inl rfl) (fun i hi e => by have := hm' i hi (by omega); omega) fr h1.below
    rwa [turn_turn fm] at this
  have e : IsGS N 1 m (turn r') := by
    refine ⟨hb, stable_turn hN fr h1.stable, fun s hs hst i hi hk => ?_⟩
    have fs : Far s := fun i hi e => by
      have hl := hs.1
      have b := hs.2 i (by omega)
      have hk : lv m i ≠ 30000 := fun h => by have := b.1.2 h; omega
      have := hm i (by omega) hk
      have := b.2 hk
      omega
    have := h1.best (turn s) (beyond_turn (.inr rfl) fm fs hs) (stable_turn hN fs hst) i (by omega) (fun e => hk ((turn_known fm hi).1 e))
    have hl := hs.1
    have hl' := h1.below.1
    have kr := h1.below.2 i (by omega)
    have hr0 : lv r' i ≠ 30000 := fun e => hk ((turn_known fm hi).1 (kr.1.1 e))
    have hs0 : lv s i ≠ 30000 := fun e => hk ((hs.2 i hi).1.1 e)
    rw [lv_turn (by omega), if_neg hs0] at this
    rw [lv_turn (by omega), if_neg hr0]
    omega
  rw [hr.uniq (.inr rfl) e, turn_turn fr]
  exact h1
theorem total_turn {w : Int} : ∀ {m s : List Int}, s.length = m.length → (∀ i, i < m.length → (lv s i = 30000 ↔ lv m i = 30000)) → total (-w) (turn s) - total (-w) (turn m) = total w s - total w m
  | [], [], _, _ => by simp [total, turn]
  | [], _ :: _, h, _ => absurd h (by simp)
  | _ :: _, [], h, _ => absurd h (by simp)
  | a :: m, b :: s, h, hk => by
    have h0 := hk 0 (by simp)
    have := total_turn (w := w) (m := m) (s := s) (by simpa using h) (fun i hi => by simpa [lv] using hk (i + 1) (by simpa using hi))
    simp only [lv, List.getD_cons_zero] at h0
    simp only [total, turn, List.map_cons, List.sum_cons] at this ⊢
    by_cases ha : a = 30000
    · have hb := h0.2 ha
      rw [if_pos ha, if_pos hb, ha, hb]
      omega
    · have hb : b ≠ 30000 := fun e => ha (h0.1 e)
      rw [if_neg ha, if_neg hb, Int.neg_mul_neg, Int.neg_mul_neg]
      omega
theorem far_of {m s : List Int} {w : Int} (h : Beyond w m s) (hs : ∀ i, i < s.length → lv s i ≠ 30000 → -20000 ≤ lv s i) : Far s := by
  intro i hi e
  have := hs i hi (by omega)
  omega
end Go.Pv.Soil

open Go Go.Proofs Go.Pv
set_option maxHeartbeats 2000000
set_option maxRecDepth 100000
set_option linter.unusedSimpArgs false
set_option linter.unusedVariables false
namespace Go.Pv.Soil

theorem soilE_ok {x : Soil} (h : soilE x = 0) : 1 ≤ x.a ∧ x.a ≤ 1000 := by
  unfold soilE at h
  split at h
  · omega
  · omega
theorem soilsE_ok {l : List Soil} (h : soilsE l = 0) {i : Nat} (hi : i < l.length) : soilE l[i] = 0 := by
  unfold soilsE at h
  split at h
  · omega
  · split at h
    · omega
    · exact (eachE_all h hi).2
theorem layRun_bd {g : Ground} {b : Boring} (hg : OkG g) (hb : OkBoring g.soils b) {i : Nat} (hi : i < b.layers.length) : 1 ≤ layRun g b i ∧ layRun g b i ≤ 1000 := by
  obtain ⟨h1, h2, h3⟩ := layRun_at hb hi
  rw [h3]
  exact soilE_ok (soilsE_ok hg.soils h2)
theorem runL_bd {g : Ground} {b : Boring} (hg : OkG g) (hb : OkBoring g.soils b) : ∀ n, n ≤ b.layers.length → 0 ≤ runL g b n ∧ runL g b n ≤ 1000 ∧ (0 < n → 1 ≤ runL g b n)
  | 0, _ => ⟨Int.le_refl _, (show (0 : Int) ≤ 1000 by decide), fun h => absurd h (by omega)⟩
  | n + 1, h => by
    have h1 := runL_bd hg hb n (by omega)
    have h2 := layRun_bd hg hb (i := n) (by omega)
    simp only [runL]
    omega
theorem runE_bd {g : Ground} (hg : OkG g) {n : Nat} (hn : n < g.borings.length) : 1 ≤ runE g n ∧ runE g n ≤ 1000 := by
  have hb := hg.bor _ hn
  have e : runE g n = runL g g.borings[n] g.borings[n].layers.length := by simp only [runE, List.getElem?_eq_getElem hn]
  rw [e]
  have := runL_bd hg hb _ (Nat.le_refl _)
  have := hb.len
  omega

/-- The gentlest slope at a cell. -/
def cellRun (g : Ground) (m : Grid) (i : Nat) : Int := runE g (nearE g (centreE m i))
theorem cellRun_bd {g : Ground} (hg : OkG g) (m : Grid) (i : Nat) : 1 ≤ cellRun g m i ∧ cellRun g m i ≤ 1000 := runE_bd hg (near_lt hg.n.1)
/-- How much two cells may differ. -/
def allowE (g : Ground) (m : Grid) (a b : Nat) : Int := 10 * m.side / max (cellRun g m a) (cellRun g m b)
theorem allowE_comm (g : Ground) (m : Grid) (a b : Nat) : allowE g m a b = allowE g m b a := by simp only [allowE, Int.max_comm]
theorem allowE_bd {g : Ground} (hg : OkG g) {m : Grid} (hm : OkGrid m) (a b : Nat) : 1 ≤ allowE g m a b ∧ allowE g m a b ≤ 100000 := by
  have h1 := cellRun_bd hg m a
  have h2 := cellRun_bd hg m b
  have hs := hm.bds.2.1
  unfold allowE
  constructor
  · exact Int.le_ediv_of_mul_le (by omega) (by omega)
  · exact Int.le_trans (Int.ediv_le_self _ (by omega)) (by omega)

structure Steep where
  high : Int
  low : Int
  over : Int
def encSteep (s : Steep) : List D := [.int .i64 s.high, .int .i64 s.low, .int .i64 s.over]
theorem scalSteep : ScalF encSteep 3 := fun _ => ⟨rfl, rfl⟩
/-- Two cells side by side that differ too much. -/
def steepOf (g : Ground) (m : Grid) (a : Nat) (b : Int) : List Steep :=
  if b < a ∨ lv m.levels a = 30000 ∨ lv m.levels b.toNat = 30000 then []
  else if lv m.levels a < lv m.levels b.toNat then (if 0 < lv m.levels b.toNat - lv m.levels a - allowE g m a b.toNat then [⟨b, a, lv m.levels b.toNat - lv m.levels a - allowE g m a b.toNat⟩] else [])
  else (if 0 < lv m.levels a - lv m.levels b.toNat - allowE g m a b.toNat then [⟨a, b, lv m.levels a - lv m.levels b.toNat - allowE g m a b.toNat⟩] else [])
def steepRow (g : Ground) (m : Grid) (a : Nat) (l : List Int) : List Steep := l.flatMap (steepOf g m a)
def steepL (g : Ground) (m : Grid) (n : Nat) : List Steep := (List.range n).flatMap fun a => steepRow g m a (nearL m a m.levels.length)

theorem steepRow_succ (g : Ground) (m : Grid) (a : Nat) {l : List Int} {j : Nat} (hj : j < l.length) : steepRow g m a (l.take (j + 1)) = steepRow g m a (l.take j) ++ steepOf g m a l[j] := by
  rw [List.take_succ_eq_append_getElem hj]; simp only [steepRow, List.flatMap_append, List.flatMap_cons, List.flatMap_nil, List.append_nil]
theorem steepL_succ (g : Ground) (m : Grid) (n : Nat) : steepL g m (n + 1) = steepL g m n ++ steepRow g m n (nearL m n m.levels.length) := by
  simp [steepL, List.range_succ]
theorem steepOf_len (g : Ground) (m : Grid) (a : Nat) (b : Int) : (steepOf g m a b).length ≤ 1 := by
  unfold steepOf
  (repeat' split) <;> simp
theorem steepRow_len (g : Ground) (m : Grid) (a : Nat) : ∀ l : List Int, (steepRow g m a l).length ≤ l.length
  | [] => by simp [steepRow]
  | b :: l => by
    have := steepRow_len g m a l
    have := steepOf_len g m a b
    simp only [steepRow, List.flatMap_cons, List.length_append, List.length_cons] at *
    omega
theorem steepL_len (g : Ground) (m : Grid) : ∀ n, (steepL g m n).length ≤ n * m.levels.length
  | 0 => by simp [steepL]
  | n + 1 => by
    have h1 := steepL_len g m n
    have h2 := steepRow_len g m n (nearL m n m.levels.length)
    have h3 := nearL_len m n m.levels.length
    rw [steepL_succ, List.length_append, Nat.succ_mul]
    omega
theorem nearL_mem (g : Grid) (i : Nat) (x : Int) : ∀ n, x ∈ nearL g i n ↔ ∃ k : Nat, k < n ∧ x = k ∧ besideE g i k = true
  | 0 => by simp [nearL]
  | n + 1 => by
    have ih := nearL_mem g i x n
    simp only [nearL]
    split
    · rename_i h
      simp only [List.mem_append, ih, List.mem_singleton]
      constructor
      · rintro (⟨k, h1, h2, h3⟩ | h1)
        · exact ⟨k, by omega, h2, h3⟩
        · exact ⟨n, by omega, h1, h⟩
      · rintro ⟨k, h1, h2, h3⟩
        by_cases e : k = n
        · subst e; exact .inr h2
        · exact .inl ⟨k, by omega, h2, h3⟩
    · rename_i h
      rw [ih]
      constructor
      · rintro ⟨k, h1, h2, h3⟩
        exact ⟨k, by omega, h2, h3⟩
      · rintro ⟨k, h1, h2, h3⟩
        refine ⟨k, ?_, h2, h3⟩
        by_cases e : k = n
        · subst e; exact absurd h3 h
        · omega

/-- The net of a grid. -/
def netE (g : Ground) (m : Grid) : Net := ⟨fun i k => besideE m i k = true, allowE g m⟩
theorem netE_ok {g : Ground} (hg : OkG g) {m : Grid} (hm : OkGrid m) (n : Nat) : (netE g m).Ok n := by
  refine ⟨fun i k h => ?_, allowE_comm g m, fun i k _ _ _ => (allowE_bd hg hm i k).1, fun i h => ?_⟩
  · simp only [netE, besideE, decide_eq_true_eq] at h ⊢
    omega
  · simp only [netE, besideE, decide_eq_true_eq] at h
    omega
theorem steepL_mem {g : Ground} {m : Grid} {s : Steep} {n : Nat} (hn : n ≤ m.levels.length) (h : s ∈ steepL g m n) : ∃ i k : Nat, s.high = i ∧ s.low = k ∧ i < m.levels.length ∧ k < m.levels.length ∧ besideE m i k = true ∧ lv m.levels i ≠ 30000 ∧ lv m.levels k ≠ 30000 ∧ allowE g m i k < lv m.levels i - lv m.levels k := by
  simp only [steepL, List.mem_flatMap, List.mem_range, steepRow] at h
  obtain ⟨a, ha, b, hb, h⟩ := h
  obtain ⟨k, h1, h2, h3⟩ := (nearL_mem m a b _).1 hb
  subst h2
  simp only [steepOf, Int.toNat_natCast] at h
  split at h
  · simp at h
  · rename_i hu
    split at h
    · split at h
      · simp only [List.mem_singleton] at h
        subst h
        refine ⟨k, a, rfl, rfl, h1, by omega, ?_, by omega, by omega, ?_⟩
        · simp only [besideE, decide_eq_true_eq] at h3 ⊢
          omega
        · rw [allowE_comm]; omega
      · simp at h
    · split at h
      · simp only [List.mem_singleton] at h
        subst h
        exact ⟨a, k, rfl, rfl, by omega, h1, h3, by omega, by omega, by omega⟩
      · simp at h
theorem steepL_of {g : Ground} {m : Grid} {a k : Nat} (ha : a < m.levels.length) (hk : k < m.levels.length) (hb : besideE m a k = true) (hne : steepOf g m a k ≠ []) : steepL g m m.levels.length ≠ [] := by
  intro h
  simp only [steepL, List.flatMap_eq_nil_iff, List.mem_range, steepRow] at h
  exact hne (h a ha k ((nearL_mem m a k _).2 ⟨k, hk, rfl, hb⟩))
theorem steepL_nil (g : Ground) (m : Grid) : steepL g m m.levels.length = [] ↔ Stable (netE g m) m.levels := by
  constructor
  · intro h i k hi hk hb h1 h2
    have hb : besideE m i k = true := hb
    refine Classical.byContradiction fun hc => ?_
    have hc : allowE g m i k < lv m.levels i - lv m.levels k := Int.not_le.1 hc
    have hb' : besideE m k i = true := by
      simp only [besideE, decide_eq_true_eq] at hb ⊢
      omega
    by_cases hik : i < k
    · refine steepL_of hi hk hb ?_ h
      simp only [steepOf, Int.toNat_natCast]
      rw [if_neg (by omega)]
      split <;> (rw [if_pos (by omega)]; simp)
    · refine steepL_of hk hi hb' ?_ h
      simp only [steepOf, Int.toNat_natCast]
      rw [if_neg (by omega), allowE_comm]
      split <;> (rw [if_pos (by omega)]; simp)
  · intro h
    cases hl : steepL g m m.levels.length with
    | nil => rfl
    | cons s r =>
      obtain ⟨i, k, _, _, h1, h2, h3, h4, h5, h6⟩ := steepL_mem (Nat.le_refl _) (show s ∈ steepL g m m.levels.length by rw [hl]; exact List.mem_cons_self)
      have := h i k h1 h2 h3 h4 h5
      have : lv m.levels i - lv m.levels k ≤ allowE g m i k := this
      omega
end Go.Pv.Soil

open Go Go.Proofs Go.Pv
set_option maxHeartbeats 2000000
set_option maxRecDepth 100000
set_option linter.unusedSimpArgs false
set_option linter.unusedVariables false
namespace Go.Pv.Soil

/-- A grid with other levels. -/
def gridL (m : Grid) (l : List Int) : Grid := ⟨m.x, m.y, m.side, m.cols, m.rows, l⟩
theorem netE_gridL (g : Ground) (m : Grid) (l : List Int) : netE g (gridL m l) = netE g m := rfl
theorem OkGrid.rng {m : Grid} (h : OkGrid m) : ∀ i, i < m.levels.length → lv m.levels i ≠ 30000 → -20000 ≤ lv m.levels i ∧ lv m.levels i ≤ 20000 := by
  intro i hi hk
  rw [lv_get hi] at hk ⊢
  rcases h.lvl i hi with h | h
  · exact absurd h hk
  · simpa [lvOK] using h
theorem OkGrid.withL {m : Grid} (h : OkGrid m) {l : List Int} (hl : l.length = m.levels.length) (hr : ∀ i, i < l.length → lv l i ≠ 30000 → -20000 ≤ lv l i ∧ lv l i ≤ 20000) : OkGrid (gridL m l) := by
  refine ⟨h.bds, h.cells, h.ends, by show (l.length : Int) = _; rw [hl]; exact h.len, fun i hi => ?_⟩
  have hi : i < l.length := hi
  have := hr i hi
  rw [lv_get hi] at this
  by_cases e : l[i] = 30000
  · exact .inl e
  · exact .inr (by show lvOK l[i] = true; simpa [lvOK] using this e)

/-- The bed at which the work ends. -/
noncomputable def slumpE (g : Ground) (m : Grid) (w : Int) : List Int := Classical.epsilon fun r => IsGS (netE g m) w m.levels r
theorem slumpE_gs {g : Ground} (hg : OkG g) {m : Grid} (hm : OkGrid m) {w : Int} (hw : w = -1 ∨ w = 1) : IsGS (netE g m) w m.levels (slumpE g m w) := by
  obtain ⟨r, h, _⟩ := gs_exists (netE_ok hg hm m.levels.length) hw rfl hm.rng
  exact Classical.epsilon_spec (p := fun r => IsGS (netE g m) w m.levels r) ⟨r, h⟩
theorem slumpE_eq {g : Ground} (hg : OkG g) {m : Grid} (hm : OkGrid m) {w : Int} (hw : w = -1 ∨ w = 1) {r : List Int} (h : IsGS (netE g m) w m.levels r) : r = slumpE g m w := h.uniq hw (slumpE_gs hg hm hw)
theorem slumpE_mid {g : Ground} (hg : OkG g) {m : Grid} (hm : OkGrid m) {w : Int} (hw : w = -1 ∨ w = 1) : Mid (netE g m) w m.levels (slumpE g m w) := gs_rng hw (netE_ok hg hm _) hm.rng (slumpE_gs hg hm hw)
theorem slumpE_ok {g : Ground} (hg : OkG g) {m : Grid} (hm : OkGrid m) {w : Int} (hw : w = -1 ∨ w = 1) : OkGrid (gridL m (slumpE g m w)) :=
  hm.withL (slumpE_gs hg hm hw).below.1 (slumpE_mid hg hm hw).rng
/-- What moves, in volume. -/
noncomputable def fallE (g : Ground) (m : Grid) (w : Int) : Int := (total w (slumpE g m w) - total w m.levels) * m.side * m.side
theorem left_bd {w : Int} (hw : w = -1 ∨ w = 1) : ∀ {l : List Int}, (∀ i, i < l.length → lv l i ≠ 30000 → -20000 ≤ lv l i ∧ lv l i ≤ 20000) → left w l ≤ 70000 * l.length
  | [], _ => by simp [left]
  | a :: l, h => by
    have h0 := h 0 (by simp)
    have := left_bd hw (l := l) fun i hi => by simpa [lv] using h (i + 1) (by simpa using hi)
    simp only [lv, List.getD_cons_zero] at h0
    simp only [left, List.map_cons, List.sum_cons, List.length_cons] at this ⊢
    by_cases ha : a = 30000
    · subst ha
      rcases hw with rfl | rfl <;> omega
    · have := h0 ha
      rcases hw with rfl | rfl <;> omega
theorem total_bd {w : Int} (hw : w = -1 ∨ w = 1) : ∀ {m s : List Int}, Beyond w m s → (∀ i, i < m.length → lv m i ≠ 30000 → -20000 ≤ lv m i ∧ lv m i ≤ 20000) → (∀ i, i < s.length → lv s i ≠ 30000 → -20000 ≤ lv s i ∧ lv s i ≤ 20000) → 0 ≤ total w s - total w m ∧ total w s - total w m ≤ 40000 * m.length
  | [], [], _, _, _ => by simp [total]
  | [], _ :: _, h, _, _ => absurd h.1 (by simp)
  | _ :: _, [], h, _, _ => absurd h.1 (by simp)
  | a :: m, b :: s, h, hm, hs => by
    have h0 := h.2 0 (by simp)
    have hm0 := hm 0 (by simp)
    have hs0 := hs 0 (by simp)
    have ht : Beyond w m s := ⟨by simpa using h.1, fun i hi => by simpa [lv] using h.2 (i + 1) (by simpa using hi)⟩
    have := total_bd hw ht (fun i hi => by simpa [lv] using hm (i + 1) (by simpa using hi)) (fun i hi => by simpa [lv] using hs (i + 1) (by simpa using hi))
    simp only [lv, List.getD_cons_zero] at h0 hm0 hs0
    simp only [total, List.map_cons, List.sum_cons, List.length_cons] at this ⊢
    by_cases ha : a = 30000
    · have := h0.1.2 ha
      subst ha; subst this
      omega
    · have hb : b ≠ 30000 := fun e => ha (h0.1.1 e)
      have := hm0 ha
      have := hs0 hb
      have := h0.2 ha
      rcases hw with rfl | rfl <;> omega
end Go.Pv.Soil

open Go Go.Proofs Go.Pv
set_option maxHeartbeats 2000000
set_option maxRecDepth 100000
set_option linter.unusedSimpArgs false
set_option linter.unusedVariables false
namespace Go.Pv.Soil

theorem c152 (g : Grid) (h : OkGrid g) (h0 : gridE g = 0) (i : Nat) (hi : i < g.levels.length) : Contract Tryz.prog 154 [.agg (encGrid g), .int .i64 i] (.ret (.tup [.fr 1 ((nearL g i g.levels.length).map encInt), .int .i64 0])) := by
  refine contract_of mix Tryz.func154 rfl rfl (by rw [Tryz.ntmps154]; exact Nat.le_of_ble_eq_true rfl) ?_; rw [Tryz.results154, Tryz.ntmps154]; simp only [argsE, Nat.reduceAdd]
  repeat' first
           | (with_reducible apply go_op)
           | (with_reducible apply go_next)
           | ((with_reducible (show evOp _ _ _ _ _ _)); first
             | ((with_reducible (show evOp _ (.move _) _ _ _ _)) ; first | ((with_reducible apply go_mv_int); rfl; rfl) | ((with_reducible apply go_mv_os); rfl; rfl) | ((with_reducible apply go_mv_nilsl); rfl; rfl))
             | ((with_reducible apply go_as))
             | (((with_reducible apply go_ld_agg); rfl; rfl; rfl; rfl))
             | (((with_reducible apply go_cmp); rfl; rfl; rfl; rfl))
             | ((with_reducible (show evOp _ (.call _) _ _ _ _)) ; first | ((with_reducible apply go_fn_int); rfl; (exact c130 g h i hi h0); rfl) | ((with_reducible apply go_fn_fr); rfl; (exact c181 g h i hi); (exact scalInt); rfl))
             | (((with_reducible apply go_bx_agg); rfl; rfl; (exact Nat.le_of_ble_eq_true rfl); rfl; rfl)))
           | ((with_reducible (show evOps _ _ _ _ _ _)); first
             | (with_reducible apply go_nil))
           | ((with_reducible (show evG _ _ _ _ _)); first
             | (with_reducible apply go_seq)
             | (with_reducible apply go_region)
             | ((with_reducible apply go_cond_f); rfl; rfl)
             | (with_reducible apply go_ret)
             | (with_reducible apply go_skipc))
           | (with_reducible apply go_kseq)
  exact finK_ret (fin_fr2 rfl (by simp) rfl rfl rfl)

/-- The greatest run in each cell. -/
def runsE (g : Ground) (m : Grid) : List Int := (List.range m.levels.length).map (cellRun g m)
theorem runsE_len (g : Ground) (m : Grid) : (runsE g m).length = m.levels.length := by simp [runsE]
theorem runsE_get (g : Ground) (m : Grid) {i : Nat} (h : i < (runsE g m).length) : (runsE g m)[i] = cellRun g m i := by simp [runsE]
def encSlopes (g : Ground) (m : Grid) : List D := [.int .i64 m.x, .int .i64 m.y, .int .i64 m.side, .int .i64 m.cols, .int .i64 m.rows, .sl (m.levels.map encInt), .sl ((runsE g m).map encInt)]

theorem c105 (gd : Ground) (g : Grid) (h : OkGrid g) (h0 : gridE g = 0) (i : Nat) (hi : i < g.levels.length) : Contract Tryz.prog 138 [.agg (encSlopes gd g), .int .i64 i] (.ret (.fr 1 ((nearL g i g.levels.length).map encInt))) := by
  refine contract_of mix Tryz.func138 rfl rfl (by rw [Tryz.ntmps138]; exact Nat.le_of_ble_eq_true rfl) ?_; rw [Tryz.results138, Tryz.ntmps138]; simp only [argsE, Nat.reduceAdd]
  repeat' first
           | (with_reducible apply go_op)
           | (with_reducible apply go_next)
           | ((with_reducible (show evOp _ _ _ _ _ _)); first
             | ((with_reducible (show evOp _ (.move _) _ _ _ _)) ; first | ((with_reducible apply go_mv_int); rfl; rfl) | ((with_reducible apply go_mv_os); rfl; rfl) | ((with_reducible apply go_mv_nilsl); rfl; rfl) | ((with_reducible apply go_mv_tup); rfl; rfl))
             | ((with_reducible apply go_as))
             | (((with_reducible apply go_load_own); rfl; rfl; rfl; rfl))
             | (((with_reducible apply go_fieldAddr_own); rfl; rfl; rfl))
             | (((with_reducible apply go_fn_fr2); rfl; (exact c152 g h h0 i hi); (exact scalInt); rfl; rfl))
             | (((with_reducible apply go_extract); rfl; rfl))
             | (((with_reducible apply go_bx_agg); rfl; rfl; (exact Nat.le_of_ble_eq_true rfl); rfl; rfl)))
           | ((with_reducible (show evOps _ _ _ _ _ _)); first
             | (with_reducible apply go_nil))
           | ((with_reducible (show evG _ _ _ _ _)); first
             | (with_reducible apply go_seq)
             | (with_reducible apply go_region)
             | (with_reducible apply go_ret))
           | (with_reducible apply go_kseq)
  exact end_fr rfl rfl rfl

theorem c106 (g : Ground) (hg : OkG g) (m : Grid) (hm : OkGrid m) (a b : Nat) (ha : a < m.levels.length) (hb : b < m.levels.length) : Contract Tryz.prog 139 [.agg (encSlopes g m), .int .i64 a, .int .i64 b] (.ret (.int .i64 (allowE g m a b))) := by
  have hl := runsE_len g m
  have ea := runsE_get g m (i := a) (by omega)
  have eb := runsE_get g m (i := b) (by omega)
  have ba := cellRun_bd hg m a
  have bb := cellRun_bd hg m b
  have hs := hm.bds.2.1
  have h3 := hm.small
  refine contract_of mix Tryz.func139 rfl rfl (by rw [Tryz.ntmps139]; exact Nat.le_of_ble_eq_true rfl) ?_; rw [Tryz.results139, Tryz.ntmps139]; simp only [argsE, Nat.reduceAdd]
  repeat' first
           | (with_reducible apply go_op)
           | (with_reducible apply go_next)
           | ((with_reducible (show evOp _ _ _ _ _ _)); first
             | (((with_reducible apply go_mv_int); rfl; rfl))
             | ((with_reducible apply go_as))
             | ((with_reducible (show evOp _ (.load _ _) _ _ _ _)) ; first | ((with_reducible apply go_load); rfl; rfl; rfl) | ((with_reducible apply go_load_own); rfl; rfl; rfl; rfl))
             | (((with_reducible apply go_fieldAddr_own); rfl; rfl; rfl))
             | (((with_reducible apply go_index_nat); rfl; rfl; (with_reducible rfl); (intro; rfl); rfl; omega; (intro hlt)))
             | ((with_reducible (show evOp _ (.binOp _ _ _ _ _) _ _ _ _)) ; first | ((with_reducible apply go_mul); rfl; rfl; rfl; omega) | ((with_reducible apply go_quo_pos); rfl; rfl; rfl; omega))
             | (((with_reducible apply go_max); rfl; rfl; rfl))
             | (((with_reducible apply go_bx_agg); rfl; rfl; (exact Nat.le_of_ble_eq_true rfl); rfl; rfl)))
           | ((with_reducible (show evOps _ _ _ _ _ _)); first
             | (with_reducible apply go_nil)
             | ((with_reducible apply go_pre); rfl)
             | (with_reducible apply go_pre_nil)
             | ((with_reducible apply go_suf); rfl)
             | (with_reducible apply go_suf_nil))
           | ((with_reducible (show evG _ _ _ _ _)); first
             | (with_reducible apply go_seq)
             | (with_reducible apply go_region)
             | ((with_reducible apply go_order); kernel_rfl; rfl)
             | (with_reducible apply go_ret))
           | (with_reducible apply go_kseq)
           | (with_reducible apply go_ksuf)
           | ((with_reducible apply end_int); rfl)
  all_goals (simp only [allowE, ea, eb])

theorem centre_ok {g : Grid} (h : OkGrid g) {i : Nat} (hi : i < g.levels.length) : ptOK (centreE g i) = true := by
  have hb := h.bds
  have hc := cell_bds h hi
  have he := h.ends
  have h1 := Int.mul_le_mul_of_nonneg_right (show (i : Int) % g.cols + 1 ≤ g.cols by omega) (show 0 ≤ g.side by omega)
  have h2 := Int.mul_le_mul_of_nonneg_right (show (i : Int) / g.cols + 1 ≤ g.rows by omega) (show 0 ≤ g.side by omega)
  rw [Int.add_mul, Int.one_mul] at h1 h2
  refine decide_eq_true ?_
  show (-1000000 ≤ g.x + (i : Int) % g.cols * g.side + g.side / 2 ∧ g.x + (i : Int) % g.cols * g.side + g.side / 2 ≤ 1000000) ∧ (-1000000 ≤ g.y + (i : Int) / g.cols * g.side + g.side / 2 ∧ g.y + (i : Int) / g.cols * g.side + g.side / 2 ≤ 1000000)
  omega

end Go.Pv.Soil

open Go Go.Proofs Go.Pv
set_option maxHeartbeats 2000000
set_option maxRecDepth 100000
set_option linter.unusedSimpArgs false
set_option linter.unusedVariables false
namespace Go.Pv.Soil

def zeroG : Grid := ⟨0, 0, 0, 0, 0, []⟩
theorem c29 (g : Grid) (hl : g.levels.length < 1000000000000) : Contract Tryz.prog 14 [.agg (encGrid g)] (.ret (.bool (sameE g zeroG))) := by
  have h32 : Contract Tryz.prog 15 [.agg (encGrid g), .agg [.int .i64 0, .int .i64 0, .int .i64 0, .int .i64 0, .int .i64 0, .sl []]] (.ret (.bool (sameE g zeroG))) := c32 g zeroG hl
  refine contract_of mix Tryz.func14 rfl rfl (by rw [Tryz.ntmps14]; exact Nat.le_of_ble_eq_true rfl) ?_; rw [Tryz.results14, Tryz.ntmps14]; simp only [argsE, Nat.reduceAdd]
  repeat' first
           | (with_reducible apply go_op)
           | (with_reducible apply go_next)
           | ((with_reducible (show evOp _ _ _ _ _ _)); first
             | (((with_reducible apply go_mv_bool); rfl; rfl))
             | ((with_reducible apply go_as))
             | (((with_reducible apply go_ld_agg); rfl; rfl; rfl; rfl))
             | (((with_reducible apply go_fn_bool); rfl; (exact h32); rfl))
             | (((with_reducible apply go_build); rfl; rfl))
             | (((with_reducible apply go_bx_agg); rfl; rfl; (exact Nat.le_of_ble_eq_true rfl); rfl; rfl)))
           | ((with_reducible (show evOps _ _ _ _ _ _)); first
             | (with_reducible apply go_nil))
           | ((with_reducible (show evG _ _ _ _ _)); first
             | (with_reducible apply go_seq)
             | (with_reducible apply go_region)
             | (with_reducible apply go_ret))
           | (with_reducible apply go_kseq)
           | ((with_reducible apply end_bool); rfl)
           | (with_reducible rfl)
end Go.Pv.Soil

open Go Go.Proofs Go.Pv
set_option maxHeartbeats 2000000
set_option maxRecDepth 100000
set_option linter.unusedSimpArgs false
set_option linter.unusedVariables false
namespace Go.Pv.Soil

def slopesSt (g : Ground) (m : Grid) : Nat → St
  | 0 => ⟨[(12, .int .i64 0), (11, .int .i64 m.levels.length), (5, .op 3 0 0), (4, .op 2 0 0), (3, .op 1 0 0), (2, .op 0 0 0)],
      [(0, ⟨2, true, [encGround g]⟩), (1, ⟨6, true, [encGrid m]⟩), (2, ⟨7, false, [[.int .i64 0, .int .i64 0, .int .i64 0, .int .i64 0, .int .i64 0, .nilsl, .nilsl]]⟩), (3, ⟨7, false, [encGrid m ++ [.nilsl]]⟩)], 32, 29⟩
  | i + 1 => ⟨[(12, .int .i64 ((i + 1 : Nat) : Int)), (11, .int .i64 m.levels.length), (5, .op 3 0 0), (4, .op 2 0 0), (3, .op 1 0 0), (2, .op 0 0 0)],
      [(0, ⟨2, true, [encGround g]⟩), (1, ⟨6, true, [encGrid m]⟩), (2, ⟨7, false, [[.int .i64 0, .int .i64 0, .int .i64 0, .int .i64 0, .int .i64 0, .nilsl, .nilsl]]⟩), (3, ⟨7, false, [encGrid m ++ [.os 4 0 (i + 1)]]⟩), (4, ⟨1, true, ((List.range (i + 1)).map (cellRun g m)).map encInt⟩)], 32, 29⟩

theorem c94 (g : Ground) (hg : OkG g) (hs : g.soils.length < 1000000000000) (m : Grid) (hm : OkGrid m) (h0 : gridE m = 0) : Contract Tryz.prog 104 [.agg (encGround g), .agg (encGrid m)] (.ret (.agg (encGrid m ++ [.fr 1 ((runsE g m).map encInt)]))) := by
  have hsm := hm.small
  have hbl : g.borings.length < 1000000000000 := by have := hg.n; omega
  have hlen := hm.len
  have hcr := mul_bd hm.bds.2.2.1 hm.bds.2.2.2
  refine contract_of mix Tryz.func104 rfl rfl (by rw [Tryz.ntmps104]; exact Nat.le_of_ble_eq_true rfl) ?_; rw [Tryz.results104, Tryz.ntmps104]; simp only [argsE, Nat.reduceAdd]
  repeat' first
           | (with_reducible apply go_op)
           | (with_reducible apply go_next)
           | ((with_reducible (show evOp _ _ _ _ _ _)); first
             | (((with_reducible apply go_mv_int); rfl; rfl))
             | ((with_reducible (show evOp _ (.load _ _) _ _ _ _)) ; first | ((with_reducible apply go_ld_agg); rfl; rfl; rfl; rfl) | ((with_reducible apply go_load_own); rfl; rfl; rfl; rfl))
             | (((with_reducible apply go_fieldAddr_own); rfl; rfl; rfl))
             | (((with_reducible apply go_len); rfl; rfl))
             | (((with_reducible apply go_st_agg); rfl; rfl; rfl; rfl; rfl; rfl; rfl))
             | (((with_reducible apply go_build); rfl; rfl))
             | (((with_reducible apply go_bx_agg); rfl; rfl; (exact Nat.le_of_ble_eq_true rfl); rfl; rfl))
             | (((with_reducible apply go_alloc); rfl; rfl; rfl)))
           | ((with_reducible (show evOps _ _ _ _ _ _)); first
             | (with_reducible apply go_nil))
           | ((with_reducible (show evG _ _ _ _ _)); first
             | (with_reducible apply go_seq)
             | (with_reducible apply go_region)
             | (with_reducible apply go_block))
           | (with_reducible apply go_kseq)
  refine go_count m.levels.length (slopesSt g m) (fun _ => True) (entails_eq (nx := 32) (k := 1) (ns := []) (ks := [12, 11, 5, 4, 3, 2]) [(0, 0), (32, 1), (64, 2), (160, 3)] rfl (by simp) (by kernel_rfl)) trivial ?_
  intro i hi _
  match i with
  | 0 =>
    have hi' : 0 < m.levels.length := by omega
    have hc := centre_ok hm hi'
    simp only [slopesSt]
    repeat' first
           | (with_reducible apply go_op)
           | (with_reducible apply go_next)
           | ((with_reducible (show evOp _ _ _ _ _ _)); first
             | (((with_reducible apply go_mv_int); rfl; rfl))
             | ((with_reducible apply go_as))
             | ((with_reducible (show evOp _ (.load _ _) _ _ _ _)) ; first | ((with_reducible apply go_ld_agg); rfl; rfl; rfl; rfl) | ((with_reducible apply go_load_own); rfl; rfl; rfl; rfl))
             | (((with_reducible apply go_fieldAddr_own); rfl; rfl; rfl))
             | (((with_reducible apply go_cmp); rfl; rfl; rfl; rfl))
             | ((with_reducible (show evOp _ (.call _) _ _ _ _)) ; first | ((with_reducible apply go_fn_plain); rfl; (exact c101 m hm 0 hi' h0); rfl; (exact Nat.le_of_ble_eq_true rfl); rfl) | ((with_reducible apply go_fn_int); rfl; (exact c98 g hbl _); rfl) | ((with_reducible apply go_fn_int); rfl; (exact c146 g hg hs _ (near_lt hg.n.1)); rfl))
             | (((with_reducible apply go_st_agg); rfl; rfl; rfl; rfl; rfl; rfl; rfl))
             | (((with_reducible apply go_bs1_int); rfl; rfl; rfl)))
           | ((with_reducible (show evOps _ _ _ _ _ _)); first
             | (with_reducible apply go_nil)
             | ((with_reducible apply go_pre); rfl)
             | ((with_reducible apply go_pre_stop); rfl)
             | ((with_reducible apply go_suf); rfl)
             | ((with_reducible apply go_suf_stop); rfl))
           | ((with_reducible (show evG _ _ _ _ _)); first
             | (with_reducible apply go_seq)
             | (with_reducible apply go_region)
             | (((with_reducible apply go_cond); rfl) <;> (intro h; simp only [h]; try simp only [decide_eq_true_eq, decide_eq_false_iff_not, Bool.not_eq_true', Bool.not_eq_false', Bool.not_true, Bool.not_false] at h; try exact absurd trivial h))
             | ((with_reducible apply go_order); kernel_rfl; rfl)
             | (with_reducible apply go_ret)
             | (with_reducible apply go_skipc)
             | (with_reducible apply go_block)
             | (with_reducible apply go_exit))
           | (with_reducible apply go_kseq)
           | (with_reducible apply go_ksuf)
           | (with_reducible apply go_kblock_exit)
           | (with_reducible apply go_kseq_exit)
    · refine go_append_new (go_app_nil (f := encInt) scalInt rfl rfl rfl rfl (by kernel_rfl) (by kernel_rfl)) rfl ?_
      repeat' first
           | (with_reducible apply go_op)
           | (with_reducible apply go_next)
           | ((with_reducible (show evOp _ _ _ _ _ _)); first
             | (((with_reducible apply go_mv_int); rfl; rfl))
             | (((with_reducible apply go_fieldAddr_own); rfl; rfl; rfl))
             | (((with_reducible apply go_add); rfl; rfl; rfl; omega))
             | (((with_reducible apply go_store); rfl; rfl; rfl; rfl; rfl; rfl; (exact Nat.le_of_ble_eq_true rfl); (first | exact Nat.le_of_ble_eq_true rfl | omega); rfl; rfl)))
           | ((with_reducible (show evOps _ _ _ _ _ _)); first
             | (with_reducible apply go_nil))
           | ((with_reducible (show evG _ _ _ _ _)); first
             | (with_reducible apply go_region))
           | (with_reducible apply go_kseq)
           | (with_reducible apply go_kblock)
      exact ⟨hi', trivial, entails_eq (nx := 32) (k := 1) (ns := []) (ks := [12, 11, 5, 4, 3, 2]) [(0, 0), (1, 1), (2, 2), (3, 3), (448, 4)] rfl (by simp) (by kernel_rfl)⟩
    · exact absurd hi' (by omega)
  | i + 1 =>
    by_cases hlt : i + 1 < m.levels.length
    · have hc := centre_ok hm hlt
      simp only [slopesSt]
      repeat' first
           | (with_reducible apply go_op)
           | (with_reducible apply go_next)
           | ((with_reducible (show evOp _ _ _ _ _ _)); first
             | (((with_reducible apply go_mv_int); rfl; rfl))
             | ((with_reducible apply go_as))
             | ((with_reducible (show evOp _ (.load _ _) _ _ _ _)) ; first | ((with_reducible apply go_ld_agg); rfl; rfl; rfl; rfl) | ((with_reducible apply go_load_own); rfl; rfl; rfl; rfl))
             | (((with_reducible apply go_fieldAddr_own); rfl; rfl; rfl))
             | (((with_reducible apply go_cmp); rfl; rfl; rfl; rfl))
             | ((with_reducible (show evOp _ (.call _) _ _ _ _)) ; first | ((with_reducible apply go_fn_plain); rfl; (exact c101 m hm (i + 1) hlt h0); rfl; (exact Nat.le_of_ble_eq_true rfl); rfl) | ((with_reducible apply go_fn_int); rfl; (exact c98 g hbl _); rfl) | ((with_reducible apply go_fn_int); rfl; (exact c146 g hg hs _ (near_lt hg.n.1)); rfl))
             | (((with_reducible apply go_st_agg); rfl; rfl; rfl; rfl; rfl; rfl; rfl))
             | (((with_reducible apply go_bs1_int); rfl; rfl; rfl)))
           | ((with_reducible (show evOps _ _ _ _ _ _)); first
             | (with_reducible apply go_nil)
             | ((with_reducible apply go_pre); rfl)
             | ((with_reducible apply go_pre_stop); rfl)
             | ((with_reducible apply go_suf); rfl)
             | ((with_reducible apply go_suf_stop); rfl))
           | ((with_reducible (show evG _ _ _ _ _)); first
             | (with_reducible apply go_seq)
             | (with_reducible apply go_region)
             | (((with_reducible apply go_cond); rfl) <;> (intro h; simp only [h]; try simp only [decide_eq_true_eq, decide_eq_false_iff_not, Bool.not_eq_true', Bool.not_eq_false', Bool.not_true, Bool.not_false] at h; try exact absurd trivial h))
             | ((with_reducible apply go_order); kernel_rfl; rfl)
             | (with_reducible apply go_ret)
             | (with_reducible apply go_skipc)
             | (with_reducible apply go_block)
             | (with_reducible apply go_exit))
           | (with_reducible apply go_kseq)
           | (with_reducible apply go_ksuf)
           | (with_reducible apply go_kblock_exit)
           | (with_reducible apply go_kseq_exit)
      · refine go_app_map (f := encInt) (l := (List.range (i + 1)).map (cellRun g m)) scalInt rfl rfl rfl (by simp) rfl rfl (by kernel_rfl) (by kernel_rfl) (by omega) rfl ?_
        repeat' first
           | (with_reducible apply go_op)
           | (with_reducible apply go_next)
           | ((with_reducible (show evOp _ _ _ _ _ _)); first
             | (((with_reducible apply go_mv_int); rfl; rfl))
             | (((with_reducible apply go_fieldAddr_own); rfl; rfl; rfl))
             | (((with_reducible apply go_add); rfl; rfl; rfl; omega))
             | (((with_reducible apply go_store); rfl; rfl; rfl; rfl; rfl; rfl; (exact Nat.le_of_ble_eq_true rfl); (first | exact Nat.le_of_ble_eq_true rfl | omega); rfl; rfl)))
           | ((with_reducible (show evOps _ _ _ _ _ _)); first
             | (with_reducible apply go_nil))
           | ((with_reducible (show evG _ _ _ _ _)); first
             | (with_reducible apply go_region))
           | (with_reducible apply go_kseq)
           | (with_reducible apply go_kblock)
        have e : (List.range (i + 1)).map (cellRun g m) ++ [runE g (nearE g (centreE m (i + 1)))] = (List.range (i + 1 + 1)).map (cellRun g m) := by
          rw [List.range_succ (n := i + 1), List.map_append]; rfl
        rw [e]
        exact ⟨hlt, trivial, entails_eq (nx := 32) (k := 1) (ns := []) (ks := [12, 11, 5, 4, 3, 2]) [(0, 0), (1, 1), (2, 2), (3, 3), (4, 4)] rfl (by simp) (by kernel_rfl)⟩
      · exact absurd hlt (by omega)
    · simp only [slopesSt]
      repeat' first
           | (with_reducible apply go_op)
           | (with_reducible apply go_next)
           | ((with_reducible (show evOp _ _ _ _ _ _)); first
             | (((with_reducible apply go_mv_int); rfl; rfl))
             | ((with_reducible apply go_as))
             | ((with_reducible (show evOp _ (.load _ _) _ _ _ _)) ; first | ((with_reducible apply go_ld_agg); rfl; rfl; rfl; rfl) | ((with_reducible apply go_load_own); rfl; rfl; rfl; rfl))
             | (((with_reducible apply go_fieldAddr_own); rfl; rfl; rfl))
             | (((with_reducible apply go_cmp); rfl; rfl; rfl; rfl))
             | (((with_reducible apply go_st_agg); rfl; rfl; rfl; rfl; rfl; rfl; rfl)))
           | ((with_reducible (show evOps _ _ _ _ _ _)); first
             | (with_reducible apply go_nil)
             | ((with_reducible apply go_pre); rfl))
           | ((with_reducible (show evG _ _ _ _ _)); first
             | (with_reducible apply go_seq)
             | (with_reducible apply go_region)
             | (((with_reducible apply go_cond); rfl) <;> (intro h; simp only [h]; try simp only [decide_eq_true_eq, decide_eq_false_iff_not, Bool.not_eq_true', Bool.not_eq_false', Bool.not_true, Bool.not_false] at h; try exact absurd trivial h))
             | ((with_reducible apply go_order); kernel_rfl; rfl)
             | (with_reducible apply go_ret)
             | (with_reducible apply go_skipc)
             | (with_reducible apply go_block)
             | (with_reducible apply go_exit))
           | (with_reducible apply go_kseq)
           | (with_reducible apply go_kblock_exit)
           | (with_reducible apply go_kseq_exit)
      · exact absurd hlt (by omega)
      · have e : i + 1 = m.levels.length := by omega
        have er : runsE g m = (List.range (i + 1)).map (cellRun g m) := by rw [runsE, ← e]
        rw [er]
        exact finK_ret (fin_agf (cs := encGrid m) (len := i + 1) rfl rfl (by simp) rfl)
end Go.Pv.Soil

open Go Go.Proofs Go.Pv
set_option maxHeartbeats 2000000
set_option maxRecDepth 100000
set_option linter.unusedSimpArgs false
set_option linter.unusedVariables false
namespace Go.Pv.Soil

theorem c104L (g : Grid) (x : Int) (hx : 0 ≤ x ∧ x < g.levels.length) (hl : g.levels.length < 1000000000000) : Contract Tryz.prog 39 [.agg (encGrid g), .int .i64 x] (.ret (.bool (!decide (lv g.levels x.toNat = 30000)))) := by
  obtain ⟨k, rfl⟩ := Int.eq_ofNat_of_zero_le hx.1
  have := c104 g k (by omega)
  rw [← lv_get] at this
  exact this
theorem c41L (g : Grid) (x : Int) (hx : 0 ≤ x ∧ x < g.levels.length) (hl : g.levels.length < 1000000000000) : Contract Tryz.prog 51 [.agg (encGrid g), .int .i64 x] (.ret (.bool (!decide (lv g.levels x.toNat = 30000)))) := by
  obtain ⟨k, rfl⟩ := Int.eq_ofNat_of_zero_le hx.1
  have := c41 g hl k (by omega)
  rw [← lv_get] at this
  exact this
theorem c106L (g : Ground) (hg : OkG g) (m : Grid) (hm : OkGrid m) (x y : Int) (hx : 0 ≤ x ∧ x < m.levels.length) (hy : 0 ≤ y ∧ y < m.levels.length) : Contract Tryz.prog 139 [.agg (encSlopes g m), .int .i64 x, .int .i64 y] (.ret (.int .i64 (allowE g m x.toNat y.toNat))) := by
  obtain ⟨k, rfl⟩ := Int.eq_ofNat_of_zero_le hx.1
  obtain ⟨j, rfl⟩ := Int.eq_ofNat_of_zero_le hy.1
  exact c106 g hg m hm k j (by omega) (by omega)
/-- The pairs of the first cells, and of the next one with its first neighbours. -/
def steepAcc (g : Ground) (a : Grid) (N : List Int) (i : Nat) : Nat → List Steep
  | 0 => steepL g a i
  | j + 1 => steepAcc g a N i j ++ match N[j]? with
    | some b => steepOf g a i b
    | none => []
theorem steepAcc_succ (g : Ground) (a : Grid) {N : List Int} (i : Nat) {j : Nat} (hj : j < N.length) : steepAcc g a N i (j + 1) = steepAcc g a N i j ++ steepOf g a i N[j] := by
  simp only [steepAcc, List.getElem?_eq_getElem hj]
theorem steepAcc_row (g : Ground) (a : Grid) (N : List Int) (i : Nat) : ∀ j, j ≤ N.length → steepAcc g a N i j = steepL g a i ++ steepRow g a i (N.take j)
  | 0, _ => by simp [steepAcc, steepRow]
  | j + 1, h => by
    rw [steepAcc_succ g a i (by omega), steepAcc_row g a N i j (by omega), steepRow_succ g a i (by omega), List.append_assoc]
theorem steepAcc_end (g : Ground) (a : Grid) (i : Nat) : steepAcc g a (nearL a i a.levels.length) i (nearL a i a.levels.length).length = steepL g a (i + 1) := by
  rw [steepAcc_row _ _ _ _ _ (Nat.le_refl _), List.take_length, steepL_succ]
theorem steepAcc_len (g : Ground) (a : Grid) (N : List Int) (i : Nat) : ∀ j, j ≤ N.length → (steepAcc g a N i j).length ≤ i * a.levels.length + j
  | 0, _ => by have := steepL_len g a i; simpa [steepAcc] using this
  | j + 1, h => by
    have h1 := steepAcc_len g a N i j (by omega)
    have h2 := steepOf_len g a i (N[j]'(by omega))
    rw [steepAcc_succ g a i (by omega), List.length_append]
    omega

end Go.Pv.Soil

open Go Go.Proofs Go.Pv
set_option maxHeartbeats 2000000
set_option maxRecDepth 100000
set_option linter.unusedSimpArgs false
set_option linter.unusedVariables false
namespace Go.Pv.Soil

theorem okGridE {m : Grid} (h : gridE m = 0) : gridE m = 0 ∧ OkGrid m := ⟨h, okGrid h⟩
theorem gridded1 {g : Ground} {m : Grid} (h : griddedE g [m] = 0) : groundE g = 0 ∧ gridE m = 0 := by
  unfold griddedE at h
  split at h
  · omega
  · rename_i h1
    split at h
    · rename_i h2; omega
    · rename_i h2
      refine ⟨by omega, ?_⟩
      simp only [List.map_cons, List.map_nil, firstOf] at h2
      split at h2 <;> omega

/-- The pairs that differ too much, or none. -/
def steepsR (g : Ground) (m : Grid) : List Steep := if griddedE g [m] = 0 then steepL g m m.levels.length else []

end Go.Pv.Soil

open Go Go.Proofs Go.Pv
set_option maxHeartbeats 2000000
set_option maxRecDepth 100000
set_option linter.unusedSimpArgs false
set_option linter.unusedVariables false
namespace Go.Pv.Soil

theorem c178 (l : List Int) (h0 : 0 < l.length) (hl : l.length ≤ 1000000000) : Contract Tryz.prog 137 [.sl (l.map encInt)] (.ret (.fr 1 (l.map encInt))) := by
  refine contract_of mix Tryz.func137 rfl rfl (by rw [Tryz.ntmps137]; exact Nat.le_of_ble_eq_true rfl) ?_; rw [Tryz.results137, Tryz.ntmps137]; simp only [argsE, Nat.reduceAdd]
  repeat' first
           | (with_reducible apply go_op)
           | (with_reducible apply go_next)
           | ((with_reducible (show evOp _ _ _ _ _ _)); first
             | ((with_reducible (show evOp _ (.move _) _ _ _ _)) ; first | ((with_reducible apply go_mv_sl); rfl; rfl) | ((with_reducible apply go_mv_nilsl); rfl; rfl))
             | ((with_reducible apply go_as)))
           | ((with_reducible (show evOps _ _ _ _ _ _)); first
             | (with_reducible apply go_nil))
           | ((with_reducible (show evG _ _ _ _ _)); first
             | (with_reducible apply go_seq)
             | (with_reducible apply go_region))
           | (with_reducible apply go_kseq)
  refine go_nileq_sl (f := encInt) rfl h0 rfl ?_
  repeat' first
           | (with_reducible apply go_op)
           | (with_reducible apply go_next)
           | ((with_reducible (show evOp _ _ _ _ _ _)); first
             | (((with_reducible apply go_mv_sl); rfl; rfl))
             | (((with_reducible apply go_bs0); rfl)))
           | ((with_reducible (show evOps _ _ _ _ _ _)); first
             | (with_reducible apply go_nil))
           | ((with_reducible (show evG _ _ _ _ _)); first
             | (with_reducible apply go_seq)
             | (with_reducible apply go_region)
             | ((with_reducible apply go_cond_f); rfl; rfl)
             | (with_reducible apply go_skipc))
           | (with_reducible apply go_kseq)
  refine go_app_sl (f := encInt) scalInt rfl rfl rfl (fun _ => rfl) (by kernel_rfl) (by kernel_rfl) hl rfl ?_
  repeat' first
           | (with_reducible apply go_op)
           | (with_reducible apply go_next)
           | ((with_reducible (show evOp _ _ _ _ _ _)); first
             | (((with_reducible apply go_mv_os); rfl; rfl))
             | ((with_reducible apply go_as)))
           | ((with_reducible (show evOps _ _ _ _ _ _)); first
             | (with_reducible apply go_nil))
           | ((with_reducible (show evG _ _ _ _ _)); first
             | (with_reducible apply go_ret))
           | (with_reducible apply go_kseq)
  exact end_frn rfl rfl rfl rfl

theorem c70 (l : List Int) (hl : l.length ≤ 1000000000) : Contract Tryz.prog 81 [.sl (l.map encInt)] (.ret (.fr 1 (l.map encInt))) := by
  refine contract_of mix Tryz.func81 rfl rfl (by rw [Tryz.ntmps81]; exact Nat.le_of_ble_eq_true rfl) ?_; rw [Tryz.results81, Tryz.ntmps81]; simp only [argsE, Nat.reduceAdd]
  repeat' first
           | (with_reducible apply go_op)
           | (with_reducible apply go_next)
           | ((with_reducible (show evOp _ _ _ _ _ _)); first
             | ((with_reducible (show evOp _ (.move _) _ _ _ _)) ; first | ((with_reducible apply go_mv_sl); rfl; rfl) | ((with_reducible apply go_mv_nilsl); rfl; rfl))
             | ((with_reducible apply go_as))
             | (((with_reducible apply go_bs0); rfl)))
           | ((with_reducible (show evOps _ _ _ _ _ _)); first
             | (with_reducible apply go_nil))
           | ((with_reducible (show evG _ _ _ _ _)); first
             | (with_reducible apply go_seq)
             | (with_reducible apply go_region))
           | (with_reducible apply go_kseq)
  refine go_app_sl (f := encInt) scalInt rfl rfl rfl (fun _ => rfl) (by kernel_rfl) (by kernel_rfl) hl rfl ?_
  repeat' first
           | (with_reducible apply go_op)
           | (with_reducible apply go_next)
           | ((with_reducible (show evOp _ _ _ _ _ _)); first
             | (((with_reducible apply go_mv_os); rfl; rfl))
             | ((with_reducible apply go_as)))
           | ((with_reducible (show evOps _ _ _ _ _ _)); first
             | (with_reducible apply go_nil))
           | ((with_reducible (show evG _ _ _ _ _)); first
             | (with_reducible apply go_ret))
           | (with_reducible apply go_kseq)
  exact end_frn rfl rfl rfl rfl

/-- A grid's cells without its levels. -/
def encG5 (g : Grid) : List D := [.int .i64 g.x, .int .i64 g.y, .int .i64 g.side, .int .i64 g.cols, .int .i64 g.rows]
theorem c91 (g : Grid) (hl : g.levels.length ≤ 1000000000) : Contract Tryz.prog 48 [.agg (encGrid g)] (.ret (.agg (encG5 g ++ [.fr 1 (g.levels.map encInt)]))) := by
  refine contract_of mix Tryz.func48 rfl rfl (by rw [Tryz.ntmps48]; exact Nat.le_of_ble_eq_true rfl) ?_; rw [Tryz.results48, Tryz.ntmps48]; simp only [argsE, Nat.reduceAdd]
  repeat' first
           | (with_reducible apply go_op)
           | (with_reducible apply go_next)
           | ((with_reducible (show evOp _ _ _ _ _ _)); first
             | ((with_reducible (show evOp _ (.load _ _) _ _ _ _)) ; first | ((with_reducible apply go_ld_agg); rfl; rfl; rfl; rfl) | ((with_reducible apply go_load_own); rfl; rfl; rfl; rfl))
             | (((with_reducible apply go_fieldAddr_own); rfl; rfl; rfl))
             | (((with_reducible apply go_fn_fr); rfl; (exact c70 g.levels hl); (exact scalInt); rfl))
             | ((with_reducible (show evOp _ (.store _ _ _) _ _ _ _)) ; first | ((with_reducible apply go_st_agg); rfl; rfl; rfl; rfl; rfl; rfl; rfl) | ((with_reducible apply go_store); rfl; rfl; rfl; rfl; rfl; rfl; (exact Nat.le_of_ble_eq_true rfl); (first | exact Nat.le_of_ble_eq_true rfl | omega); rfl; rfl))
             | (((with_reducible apply go_bx_agg); rfl; rfl; (exact Nat.le_of_ble_eq_true rfl); rfl; rfl))
             | (((with_reducible apply go_alloc); rfl; rfl; rfl)))
           | ((with_reducible (show evOps _ _ _ _ _ _)); first
             | (with_reducible apply go_nil))
           | ((with_reducible (show evG _ _ _ _ _)); first
             | (with_reducible apply go_seq)
             | (with_reducible apply go_region)
             | (with_reducible apply go_ret))
           | (with_reducible apply go_kseq)
  exact finK_ret (fin_agf (cs := encG5 g) (len := g.levels.length) rfl rfl (by simp) rfl)
end Go.Pv.Soil

import Derived.Test.YtdedpndkohfgbaaSX
import Derived.Test.YtdedpndkohfgbaaSM
import Derived.Test.YtdedpndkohfgbaaSN
import Derived.Test.YtdedpndkohfgbaaProg
import Derived.Test.YtdedpndkohfgbaaSO
import Derived.KernelRfl
import Derived.Test.YtdedpndkohfgbaaSG2
/- Part of the proofs over Ytdedpndkohfgbaa: PwS, G3, T1, S55, S56. -/
set_option linter.unusedVariables false
set_option linter.unusedSimpArgs false
set_option linter.unnecessarySimpa false
/- A struct with an own list, handed over behind two values. -/
namespace Go.Pv
theorem purL_agf3 {h : Nat → Option Blk} {b len k : Nat} {rows : List (List D)} {d d' u u' : D} {cs ds rs : List D} (hd : pur h 63 d = some d') (hu : pur h 62 u = some u') (hb : h b = some ⟨k, true, rows⟩) (hl : rows.length = len) (hc : cs.all cellP = true) (hn : Nat.ble cs.length 40 = true) (hr : purL h 61 ds = some rs) :
    purL h 64 (d :: u :: .agg (cs ++ [.os b 0 len]) :: ds) = some (d' :: u' :: .agg (cs ++ [.sl rows]) :: rs) := by
  have hn' := Nat.le_of_ble_eq_true hn
  have e : pur h 61 (.agg (cs ++ [.os b 0 len])) = some (.agg (cs ++ [.sl rows])) := by
    show (purL h 60 _).map D.agg = _
    rw [purL_cells hb hl (by omega) hc]
    rfl
  have e2 : purL h 62 (.agg (cs ++ [.os b 0 len]) :: ds) = some (.agg (cs ++ [.sl rows]) :: rs) := by
    show (pur h 61 _).bind _ = _
    rw [e]
    simp only [Option.bind_some, hr, Option.map_some]
  have e3 : purL h 63 (u :: .agg (cs ++ [.os b 0 len]) :: ds) = some (u' :: .agg (cs ++ [.sl rows]) :: rs) := by
    show (pur h 62 u).bind _ = _
    rw [hu]
    simp only [Option.bind_some, e2, Option.map_some]
  show (pur h 63 d).bind _ = _
  rw [hd]
  simp only [Option.bind_some, e3, Option.map_some]
end Go.Pv

open Go Go.Proofs Go.Pv
set_option maxHeartbeats 2000000
set_option linter.unusedSimpArgs false
set_option linter.unusedVariables false
namespace Go.Pv.Soil

theorem gridE_setL {m : Grid} (h : gridE m = 0) {l : List Int} (hl : l.length = m.levels.length) (hr : ∀ i, i < l.length → lv l i ≠ 30000 → -20000 ≤ lv l i ∧ lv l i ≤ 20000) : gridE (gridL m l) = 0 := by
  have hm := okGrid h
  have e : (gridL m l).levels.any badLv = false := by
    refine Bool.eq_false_iff.2 fun hc => ?_
    obtain ⟨x, hx, hb⟩ := List.any_eq_true.1 hc
    obtain ⟨i, hi, rfl⟩ := List.mem_iff_getElem.1 hx
    have hi : i < l.length := hi
    have := hr i hi
    rw [lv_get hi] at this
    have hb : badLv l[i] = true := hb
    simp only [badLv, Bool.and_eq_true, decide_eq_true_eq, Bool.not_eq_true', lvOK, decide_eq_false_iff_not] at hb
    exact hb.2 (this hb.1)
  unfold gridE
  rw [if_neg (fun h => h hm.bds), if_neg (by have := hm.cells; show ¬ 1024 < m.cols * m.rows; omega), if_neg (by have := hm.ends; show ¬ (1000000 < m.x + m.cols * m.side ∨ 1000000 < m.y + m.rows * m.side); omega), if_neg (by show ¬ (l.length : Int) ≠ m.cols * m.rows; have := hm.len; omega), e]
  rfl
theorem gridded_setL {g : Ground} {m : Grid} (h : griddedE g [m] = 0) {l : List Int} (hl : l.length = m.levels.length) (hr : ∀ i, i < l.length → lv l i ≠ 30000 → -20000 ≤ lv l i ∧ lv l i ≤ 20000) : griddedE g [gridL m l] = 0 := by
  obtain ⟨h1, h2⟩ := gridded1 h
  have h3 := gridE_setL h2 hl hr
  unfold griddedE
  rw [if_neg (fun h => h h1)]
  simp [firstOf, h3]
end Go.Pv.Soil

open Go Go.Proofs Go.Pv
set_option maxHeartbeats 4000000
set_option maxRecDepth 100000
set_option linter.unusedSimpArgs false
set_option linter.unusedVariables false
namespace Go.Pv.Soil

/-- The volume between the first cells of two beds. -/
def fallN (b a : Grid) : Nat → Int
  | 0 => 0
  | n + 1 => fallN b a n + if lv b.levels n ≠ 30000 ∧ lv a.levels n ≠ 30000 then (lv b.levels n - lv a.levels n) * b.side * b.side else 0

theorem term_bd {d s : Int} (hd : -40000 ≤ d ∧ d ≤ 40000) (hs : 100 ≤ s ∧ s ≤ 10000) : (-400000000 ≤ d * s ∧ d * s ≤ 400000000) ∧ -4000000000000 ≤ d * s * s ∧ d * s * s ≤ 4000000000000 := by
  have key : ∀ x y M Y : Int, -M ≤ x ∧ x ≤ M → 0 ≤ y ∧ y ≤ Y → -(M * Y) ≤ x * y ∧ x * y ≤ M * Y := fun x y M Y hx hy => by
    have h1 : x * y ≤ M * y := Int.mul_le_mul_of_nonneg_right hx.2 hy.1
    have h2 : -M * y ≤ x * y := Int.mul_le_mul_of_nonneg_right hx.1 hy.1
    have h3 : M * y ≤ M * Y := Int.mul_le_mul_of_nonneg_left hy.2 (by omega)
    rw [Int.neg_mul] at h2
    omega
  have h1 := key d s 40000 10000 hd (by omega)
  have h2 := key (d * s) s 400000000 10000 (by omega) (by omega)
  omega
theorem fallN_bd {b a : Grid} (hb : OkGrid b) (ha : OkGrid a) (hl : a.levels.length = b.levels.length) : ∀ n, n ≤ b.levels.length → -(4000000000000 * (n : Int)) ≤ fallN b a n ∧ fallN b a n ≤ 4000000000000 * (n : Int)
  | 0, _ => ⟨Int.le_refl _, Int.le_refl _⟩
  | n + 1, h => by
    have ih := fallN_bd hb ha hl n (by omega)
    simp only [fallN]
    split
    · rename_i hk
      have r1 := hb.rng n (by omega) hk.1
      have r2 := ha.rng n (by omega) hk.2
      have := term_bd (d := lv b.levels n - lv a.levels n) (by omega) hb.bds.2.1
      omega
    · omega

theorem c33 (b a : Grid) (hb : OkGrid b) (ha : OkGrid a) (hl : a.levels.length = b.levels.length) : Contract Try.prog 33 [.agg (encGrid b), .agg (encGrid a)] (.ret (.int .i64 (fallN b a b.levels.length))) := by
  have hs := hb.small
  refine contract_of mix Try.func33 rfl rfl (by rw [Try.ntmps33]; exact Nat.le_of_ble_eq_true rfl) ?_; rw [Try.results33, Try.ntmps33]; simp only [argsE, Nat.reduceAdd]
  repeat' first
           | (with_reducible apply go_op)
           | (with_reducible apply go_next)
           | ((with_reducible (show evOp _ _ _ _ _ _)); first
             | (((with_reducible apply go_mv_int); rfl; rfl))
             | ((with_reducible apply go_as))
             | (((with_reducible apply go_bx_agg); rfl; rfl; (exact Nat.le_of_ble_eq_true rfl); rfl; rfl)))
           | ((with_reducible (show evOps _ _ _ _ _ _)); first
             | (with_reducible apply go_nil))
           | ((with_reducible (show ev _ _ _ _)); first
             | (with_reducible apply go_seq)
             | (with_reducible apply go_region)
             | (with_reducible apply go_block))
           | (with_reducible apply go_kseq)
  refine go_count (b.levels.length) (fun i => ⟨[(6, .int .i64 i), (5, .int .i64 (fallN b a i)), (2, .op 0 0 0), (3, .op 32 0 0)], [(0, ⟨6, true, [encGrid b]⟩), (32, ⟨6, true, [encGrid a]⟩)], 64, 42⟩) (fun i => True) (entails_eq (k := 0) (ns := []) (ks := [6, 5, 2, 3]) [(0, 0), (32, 32)] rfl (by simp) rfl) trivial ?_
  intro i hi _
  have hbd := fallN_bd hb ha hl i hi
  by_cases hlt : i < b.levels.length
  · have hla : i < a.levels.length := by omega
    have e1 : lv b.levels i = b.levels[i] := lv_get hlt
    have e2 : lv a.levels i = a.levels[i] := lv_get hla
    have hnx : fallN b a (i + 1) = fallN b a i + if lv b.levels i ≠ 30000 ∧ lv a.levels i ≠ 30000 then (lv b.levels i - lv a.levels i) * b.side * b.side else 0 := rfl
    have r1 := hb.rng i hlt
    have r2 := ha.rng i hla
    have c1 : Contract Try.prog 41 [.agg (encGrid b), .int .i64 i] (.ret (.bool (!decide (lv b.levels i = 30000)))) := c41L b (i : Int) (by omega) (by omega)
    have c2 : Contract Try.prog 41 [.agg (encGrid a), .int .i64 i] (.ret (.bool (!decide (lv a.levels i = 30000)))) := c41L a (i : Int) (by omega) (by omega)
    by_cases hk : lv b.levels i ≠ 30000 ∧ lv a.levels i ≠ 30000
    · have tb := term_bd (d := b.levels[i] - a.levels[i]) (s := b.side) (by rw [← e1, ← e2]; have := r1 hk.1; have := r2 hk.2; omega) hb.bds.2.1
      have r1' : -20000 ≤ b.levels[i] ∧ b.levels[i] ≤ 20000 := e1 ▸ r1 hk.1
      have r2' : -20000 ≤ a.levels[i] ∧ a.levels[i] ≤ 20000 := e2 ▸ r2 hk.2
      rw [if_pos hk, e1, e2] at hnx
      repeat' first
           | (with_reducible apply go_op)
           | (with_reducible apply go_next)
           | ((with_reducible (show evOp _ _ _ _ _ _)); first
             | ((with_reducible (show evOp _ (.move _) _ _ _ _)) ; first | ((with_reducible apply go_mv_int); rfl; rfl) | ((with_reducible apply go_mv_bool); rfl; rfl))
             | ((with_reducible apply go_as))
             | ((with_reducible (show evOp _ (.load _ _) _ _ _ _)) ; first | ((with_reducible apply go_ld_agg); rfl; rfl; rfl; rfl) | ((with_reducible apply go_load); rfl; rfl; rfl) | ((with_reducible apply go_load_own); rfl; rfl; rfl; rfl))
             | (((with_reducible apply go_fieldAddr_own); rfl; rfl; rfl))
             | (((with_reducible apply go_index_nat); rfl; rfl; (with_reducible rfl); (intro; rfl); rfl; omega; (intro hlt)))
             | ((with_reducible (show evOp _ (.binOp _ _ _ _ _) _ _ _ _)) ; first | ((with_reducible apply go_cmp); rfl; rfl; rfl; rfl) | ((with_reducible apply go_add); rfl; rfl; rfl; omega) | ((with_reducible apply go_sub); rfl; rfl; rfl; omega) | ((with_reducible apply go_mul); rfl; rfl; rfl; omega))
             | ((with_reducible (show evOp _ (.call _) _ _ _ _)) ; first | ((with_reducible apply go_len); rfl; rfl) | ((with_reducible apply go_fn_bool); rfl; (exact c1); rfl) | ((with_reducible apply go_fn_bool); rfl; (exact c2); rfl))
             | (((with_reducible apply go_pick); rfl; rfl; rfl)))
           | ((with_reducible (show evOps _ _ _ _ _ _)); first
             | (with_reducible apply go_nil)
             | ((with_reducible apply go_run); rfl; rfl)
             | ((with_reducible apply go_pass); rfl; rfl; rfl)
             | (((with_reducible apply go_guard); rfl) <;> (intro h; simp only [h, Bool.not_true, Bool.not_false]; (try with_reducible (refine ⟨rfl, ?_⟩)); try simp only [decide_eq_true_eq, decide_eq_false_iff_not, Bool.not_eq_true', Bool.not_eq_false', Bool.not_true, Bool.not_false] at h; try exact absurd trivial h))
             | (with_reducible apply go_take)
             | (with_reducible apply go_take0)
             | (with_reducible apply go_drop)
             | (with_reducible apply go_drop0))
           | ((with_reducible (show ev _ _ _ _)); first
             | (with_reducible apply go_seq)
             | (with_reducible apply go_region)
             | ((with_reducible apply go_cond_f); rfl; rfl)
             | (((with_reducible apply go_cond); rfl) <;> (intro h; simp only [h]; try simp only [decide_eq_true_eq, decide_eq_false_iff_not, Bool.not_eq_true', Bool.not_eq_false', Bool.not_true, Bool.not_false] at h; try exact absurd trivial h))
             | ((with_reducible apply (go_drawM 19)); decide +kernel; rfl)
             | (with_reducible apply go_ret)
             | (with_reducible apply go_skipc)
             | (with_reducible apply go_block)
             | (with_reducible apply go_exit))
           | (with_reducible apply go_kseq)
           | (with_reducible apply go_kblock)
           | (with_reducible apply go_kblock_exit)
           | (with_reducible apply go_kdrop)
           | (with_reducible apply go_kseq_exit)
           | ((with_reducible apply end_int); rfl)
      all_goals first
        | exact absurd hlt (by omega)
        | (refine ⟨‹i < b.levels.length›, trivial, ?_⟩; rw [hnx]; exact entails_eq (k := 0) (ns := []) (ks := [6, 5, 2, 3]) [(0, 0), (32, 32)] rfl (by simp) rfl)
        | (exfalso; omega)
        | trace_state
    · rw [if_neg hk, Int.add_zero] at hnx
      repeat' first
           | (with_reducible apply go_op)
           | (with_reducible apply go_next)
           | ((with_reducible (show evOp _ _ _ _ _ _)); first
             | ((with_reducible (show evOp _ (.move _) _ _ _ _)) ; first | ((with_reducible apply go_mv_int); rfl; rfl) | ((with_reducible apply go_mv_bool); rfl; rfl))
             | ((with_reducible apply go_as))
             | ((with_reducible (show evOp _ (.load _ _) _ _ _ _)) ; first | ((with_reducible apply go_ld_agg); rfl; rfl; rfl; rfl) | ((with_reducible apply go_load); rfl; rfl; rfl) | ((with_reducible apply go_load_own); rfl; rfl; rfl; rfl))
             | (((with_reducible apply go_fieldAddr_own); rfl; rfl; rfl))
             | (((with_reducible apply go_index_nat); rfl; rfl; (with_reducible rfl); (intro; rfl); rfl; omega; (intro hlt)))
             | ((with_reducible (show evOp _ (.binOp _ _ _ _ _) _ _ _ _)) ; first | ((with_reducible apply go_cmp); rfl; rfl; rfl; rfl) | ((with_reducible apply go_add); rfl; rfl; rfl; omega) | ((with_reducible apply go_sub); rfl; rfl; rfl; omega) | ((with_reducible apply go_mul); rfl; rfl; rfl; omega))
             | ((with_reducible (show evOp _ (.call _) _ _ _ _)) ; first | ((with_reducible apply go_len); rfl; rfl) | ((with_reducible apply go_fn_bool); rfl; (exact c1); rfl) | ((with_reducible apply go_fn_bool); rfl; (exact c2); rfl))
             | (((with_reducible apply go_pick); rfl; rfl; rfl)))
           | ((with_reducible (show evOps _ _ _ _ _ _)); first
             | (with_reducible apply go_nil)
             | ((with_reducible apply go_run); rfl; rfl)
             | ((with_reducible apply go_pass); rfl; rfl; rfl)
             | (((with_reducible apply go_guard); rfl) <;> (intro h; simp only [h, Bool.not_true, Bool.not_false]; (try with_reducible (refine ⟨rfl, ?_⟩)); try simp only [decide_eq_true_eq, decide_eq_false_iff_not, Bool.not_eq_true', Bool.not_eq_false', Bool.not_true, Bool.not_false] at h; try exact absurd trivial h))
             | (with_reducible apply go_take)
             | (with_reducible apply go_take0)
             | (with_reducible apply go_drop)
             | (with_reducible apply go_drop0))
           | ((with_reducible (show ev _ _ _ _)); first
             | (with_reducible apply go_seq)
             | (with_reducible apply go_region)
             | ((with_reducible apply go_cond_f); rfl; rfl)
             | (((with_reducible apply go_cond); rfl) <;> (intro h; simp only [h]; try simp only [decide_eq_true_eq, decide_eq_false_iff_not, Bool.not_eq_true', Bool.not_eq_false', Bool.not_true, Bool.not_false] at h; try exact absurd trivial h))
             | ((with_reducible apply (go_drawM 19)); decide +kernel; rfl)
             | (with_reducible apply go_ret)
             | (with_reducible apply go_skipc)
             | (with_reducible apply go_block)
             | (with_reducible apply go_exit))
           | (with_reducible apply go_kseq)
           | (with_reducible apply go_kblock)
           | (with_reducible apply go_kblock_exit)
           | (with_reducible apply go_kdrop)
           | (with_reducible apply go_kseq_exit)
           | ((with_reducible apply end_int); rfl)
      all_goals first
        | exact absurd hlt (by omega)
        | exact absurd (And.intro ‹¬lv b.levels i = 30000› ‹¬lv a.levels i = 30000›) hk
        | (refine ⟨‹i < b.levels.length›, trivial, ?_⟩; rw [hnx]; exact entails_eq (k := 0) (ns := []) (ks := [6, 5, 2, 3]) [(0, 0), (32, 32)] rfl (by simp) rfl)
        | trace_state
  · have e : i = b.levels.length := by omega
    subst e
    repeat' first
           | (with_reducible apply go_op)
           | (with_reducible apply go_next)
           | ((with_reducible (show evOp _ _ _ _ _ _)); first
             | (((with_reducible apply go_mv_int); rfl; rfl))
             | ((with_reducible apply go_as))
             | ((with_reducible (show evOp _ (.load _ _) _ _ _ _)) ; first | ((with_reducible apply go_ld_agg); rfl; rfl; rfl; rfl) | ((with_reducible apply go_load_own); rfl; rfl; rfl; rfl))
             | (((with_reducible apply go_fieldAddr_own); rfl; rfl; rfl))
             | (((with_reducible apply go_cmp); rfl; rfl; rfl; rfl))
             | (((with_reducible apply go_len); rfl; rfl)))
           | ((with_reducible (show evOps _ _ _ _ _ _)); first
             | (with_reducible apply go_nil))
           | ((with_reducible (show ev _ _ _ _)); first
             | (with_reducible apply go_seq)
             | (with_reducible apply go_region)
             | (((with_reducible apply go_cond); rfl) <;> (intro h; simp only [h]; try simp only [decide_eq_true_eq, decide_eq_false_iff_not, Bool.not_eq_true', Bool.not_eq_false', Bool.not_true, Bool.not_false] at h; try exact absurd trivial h))
             | (with_reducible apply go_ret)
             | (with_reducible apply go_skipc)
             | (with_reducible apply go_block)
             | (with_reducible apply go_exit))
           | (with_reducible apply go_kseq)
           | (with_reducible apply go_kblock_exit)
           | (with_reducible apply go_kseq_exit)
           | ((with_reducible apply end_int); rfl)
           | (with_reducible rfl)
    all_goals first | exact absurd hlt (by omega) | trace_state
theorem total_take (w : Int) (l : List Int) {n : Nat} (h : n < l.length) : total w (l.take (n + 1)) = total w (l.take n) + lv l n * w := by
  rw [List.take_succ_eq_append_getElem h, lv_get h]
  simp only [total, List.map_append, List.sum_append, List.map_cons, List.map_nil, List.sum_cons, List.sum_nil]
  omega
theorem fallN_eq {b a : Grid} (hl : a.levels.length = b.levels.length) (hk : ∀ i, i < b.levels.length → (lv a.levels i = 30000 ↔ lv b.levels i = 30000)) : ∀ n, n ≤ b.levels.length → fallN b a n = (total (-1) (a.levels.take n) - total (-1) (b.levels.take n)) * b.side * b.side
  | 0, _ => by simp [fallN, total]
  | n + 1, h => by
    have ih := fallN_eq hl hk n (by omega)
    have h1 := hk n (by omega)
    rw [total_take _ _ (by omega), total_take _ _ (by omega)]
    simp only [fallN, ih]
    have e : ∀ x y u v s : Int, (x + y * -1 - (u + v * -1)) * s * s = (x - u) * s * s + (v - y) * s * s := fun x y u v s => by
      rw [← Int.add_mul, ← Int.add_mul]; congr 2; omega
    rw [e]
    congr 1
    by_cases hu : lv b.levels n = 30000
    · rw [if_neg (by omega), hu, h1.2 hu]; simp
    · rw [if_pos (by omega)]
end Go.Pv.Soil

open Go Go.Proofs Go.Pv
set_option maxHeartbeats 8000000
set_option maxRecDepth 100000
set_option linter.unusedSimpArgs false
set_option linter.unusedVariables false
namespace Go.Pv.Soil

theorem c122 (x : Int) : Contract Try.prog 122 [.int .i64 x] (.ret (.bool true)) := by
  refine contract_of mix Try.func122 rfl rfl (by rw [Try.ntmps122]; exact Nat.le_of_ble_eq_true rfl) ?_; rw [Try.results122, Try.ntmps122]; simp only [argsE, Nat.reduceAdd]
  repeat' first
           | (with_reducible apply go_op)
           | (with_reducible apply go_next)
           | ((with_reducible (show evOp _ _ _ _ _ _)); first
             | (((with_reducible apply go_mv_bool); rfl; rfl))
             | ((with_reducible apply go_as)))
           | ((with_reducible (show evOps _ _ _ _ _ _)); first
             | (with_reducible apply go_nil))
           | ((with_reducible (show ev _ _ _ _)); first
             | (with_reducible apply go_seq)
             | (with_reducible apply go_region)
             | (with_reducible apply go_ret))
           | (with_reducible apply go_kseq)
           | ((with_reducible apply end_bool); rfl)
           | (with_reducible rfl)
theorem c121 : Contract Try.prog 121 [] (.ret (.agg [.int .i64 (-20000), .int .i64 20000])) := by
  refine contract_of mix Try.func121 rfl rfl (by rw [Try.ntmps121]; exact Nat.le_of_ble_eq_true rfl) ?_; rw [Try.results121, Try.ntmps121]; simp only [argsE, Nat.reduceAdd]
  repeat' first
           | (with_reducible apply go_op)
           | (with_reducible apply go_next)
           | ((with_reducible (show evOp _ _ _ _ _ _)); first
             | (((with_reducible apply go_st_agg); rfl; rfl; rfl; rfl; rfl; rfl; rfl))
             | (((with_reducible apply go_bd2_int); rfl; rfl; rfl; rfl))
             | (((with_reducible apply go_alloc); rfl; rfl; rfl)))
           | ((with_reducible (show evOps _ _ _ _ _ _)); first
             | (with_reducible apply go_nil))
           | ((with_reducible (show ev _ _ _ _)); first
             | (with_reducible apply go_seq)
             | (with_reducible apply go_region)
             | (with_reducible apply go_ret))
           | (with_reducible apply go_kseq)
           | ((with_reducible apply end_agg); rfl; rfl)
  all_goals (rw [show Try.prog.cellsOf 183 = 2 by kernel_rfl]; rfl)
def dE (low high : Int) : Int := max 0 (min high 20000 - max low (-20000))
theorem c164 (a b : Int) (ha : -20000 ≤ a ∧ a ≤ 20000) (hb : -20000 ≤ b ∧ b ≤ 20000) : Contract Try.prog 164 [.agg [.int .i64 (-20000), .int .i64 20000], .int .i64 a, .int .i64 b] (.ret (.int .i64 (dE a b))) := by
  refine contract_of mix Try.func164 rfl rfl (by rw [Try.ntmps164]; exact Nat.le_of_ble_eq_true rfl) ?_; rw [Try.results164, Try.ntmps164]; simp only [argsE, Nat.reduceAdd]
  repeat' first
           | (with_reducible apply go_op)
           | (with_reducible apply go_next)
           | ((with_reducible (show evOp _ _ _ _ _ _)); first
             | (((with_reducible apply go_mv_int); rfl; rfl))
             | ((with_reducible apply go_as))
             | (((with_reducible apply go_load_own); rfl; rfl; rfl; rfl))
             | (((with_reducible apply go_fieldAddr_own); rfl; rfl; rfl))
             | (((with_reducible apply go_sub); rfl; rfl; rfl; omega))
             | ((with_reducible (show evOp _ (.call _) _ _ _ _)) ; first | ((with_reducible apply go_min); rfl; rfl; rfl) | ((with_reducible apply go_max); rfl; rfl; rfl))
             | (((with_reducible apply go_bx_agg); rfl; rfl; (exact Nat.le_of_ble_eq_true rfl); rfl; rfl)))
           | ((with_reducible (show evOps _ _ _ _ _ _)); first
             | (with_reducible apply go_nil))
           | ((with_reducible (show ev _ _ _ _)); first
             | (with_reducible apply go_seq)
             | (with_reducible apply go_region)
             | (with_reducible apply go_ret))
           | (with_reducible apply go_kseq)
           | ((with_reducible apply end_int); rfl)
  all_goals first | rfl | trace_state
theorem c163 (m : Grid) (hm : OkGrid m) (i : Nat) (hi : i < m.levels.length) : Contract Try.prog 163 [.agg (encGrid m), .int .i64 i] (.ret (.bool (!decide (lv m.levels i = 30000)))) := by
  have hs := hm.small
  have h174 : Contract Try.prog 174 [.int .i64 0, .int .i64 ((m.levels.length : Int) - 1), .sl [[.int .i64 i]]] (.ret (.bool true)) := by
    have := c174' 0 ((m.levels.length : Int) - 1) i
    rwa [decide_eq_true (by omega)] at this
  rw [lv_get hi]
  refine contract_of mix Try.func163 rfl rfl (by rw [Try.ntmps163]; exact Nat.le_of_ble_eq_true rfl) ?_; rw [Try.results163, Try.ntmps163]; simp only [argsE, Nat.reduceAdd]
  repeat' first
           | (with_reducible apply go_op)
           | (with_reducible apply go_next)
           | ((with_reducible (show evOp _ _ _ _ _ _)); first
             | ((with_reducible (show evOp _ (.move _) _ _ _ _)) ; first | ((with_reducible apply go_mv_int); rfl; rfl) | ((with_reducible apply go_mv_bool); rfl; rfl))
             | ((with_reducible apply go_as))
             | ((with_reducible (show evOp _ (.load _ _) _ _ _ _)) ; first | ((with_reducible apply go_load); rfl; rfl; rfl) | ((with_reducible apply go_load_own); rfl; rfl; rfl; rfl))
             | (((with_reducible apply go_fieldAddr_own); rfl; rfl; rfl))
             | (((with_reducible apply go_index_nat); rfl; rfl; (with_reducible rfl); (intro; rfl); rfl; omega; (intro hlt)))
             | ((with_reducible (show evOp _ (.binOp _ _ _ _ _) _ _ _ _)) ; first | ((with_reducible apply go_cmp); rfl; rfl; rfl; rfl) | ((with_reducible apply go_sub); rfl; rfl; rfl; omega))
             | ((with_reducible (show evOp _ (.call _) _ _ _ _)) ; first | ((with_reducible apply go_len); rfl; rfl) | ((with_reducible apply go_fn_bool); rfl; (exact h174); rfl))
             | (((with_reducible apply go_pick); rfl; rfl; rfl))
             | (((with_reducible apply go_bx_agg); rfl; rfl; (exact Nat.le_of_ble_eq_true rfl); rfl; rfl))
             | (((with_reducible apply go_bs1_int); rfl; rfl; rfl)))
           | ((with_reducible (show evOps _ _ _ _ _ _)); first
             | (with_reducible apply go_nil)
             | ((with_reducible apply go_run); rfl; rfl))
           | ((with_reducible (show ev _ _ _ _)); first
             | (with_reducible apply go_seq)
             | (with_reducible apply go_region)
             | (with_reducible apply go_ret))
           | (with_reducible apply go_kseq)
           | ((with_reducible apply end_bool); rfl)
           | (with_reducible rfl)
theorem c162 (m : Grid) : Contract Try.prog 162 [.agg (encGrid m)] (.ret (.agg [.int .i64 m.x, .int .i64 m.y, .int .i64 m.side, .int .i64 m.cols, .int .i64 m.rows])) := by
  refine contract_of mix Try.func162 rfl rfl (by rw [Try.ntmps162]; exact Nat.le_of_ble_eq_true rfl) ?_; rw [Try.results162, Try.ntmps162]; simp only [argsE, Nat.reduceAdd]
  repeat' first
           | (with_reducible apply go_op)
           | (with_reducible apply go_next)
           | ((with_reducible (show evOp _ _ _ _ _ _)); first
             | (((with_reducible apply go_load_own); rfl; rfl; rfl; rfl))
             | (((with_reducible apply go_fieldAddr_own); rfl; rfl; rfl))
             | (((with_reducible apply go_st_agg); rfl; rfl; rfl; rfl; rfl; rfl; rfl))
             | (((with_reducible apply go_build); rfl; rfl))
             | (((with_reducible apply go_bx_agg); rfl; rfl; (exact Nat.le_of_ble_eq_true rfl); rfl; rfl))
             | (((with_reducible apply go_alloc); rfl; rfl; rfl)))
           | ((with_reducible (show evOps _ _ _ _ _ _)); first
             | (with_reducible apply go_nil))
           | ((with_reducible (show ev _ _ _ _)); first
             | (with_reducible apply go_seq)
             | (with_reducible apply go_region)
             | (with_reducible apply go_ret))
           | (with_reducible apply go_kseq)
           | ((with_reducible apply end_agg); rfl; rfl)
  all_goals (rw [show Try.prog.cellsOf 215 = 5 by kernel_rfl]; rfl)
instance teq215 : TEq Try.prog 215 [.i, .i, .i, .i, .i] := ⟨by kernel_rfl⟩
theorem c119 (m a : Grid) (hl : m.levels.length < 1000000000000) (hla : a.levels.length < 1000000000000) (h1 : gridE m = 0) (h2 : gridE a = 0) (h3 : alikeE m a = true) : Contract Try.prog 119 [.agg (encGrid m), .agg (encGrid a)] (.ret (.int .i64 0)) := by
  have h144a := c144 m hl
  have h144b := c144 a hla
  rw [h1] at h144a
  rw [h2] at h144b
  have e := alike_gridL h3
  have h162 := c162 m
  have h162a : Contract Try.prog 162 [.agg (encGrid a)] (.ret (.agg [.int .i64 m.x, .int .i64 m.y, .int .i64 m.side, .int .i64 m.cols, .int .i64 m.rows])) := by
    have := c162 a
    rw [show a.x = m.x by rw [e]; rfl, show a.y = m.y by rw [e]; rfl, show a.side = m.side by rw [e]; rfl, show a.cols = m.cols by rw [e]; rfl, show a.rows = m.rows by rw [e]; rfl] at this
    exact this
  have h144 : ∀ i (hi : i < [m, a].length), Contract Try.prog 144 [.agg (encGrid [m, a][i])] (.ret (.int .i64 0)) := fun i hi => by
    match i, hi with
    | 0, _ => exact h144a
    | 1, _ => exact h144b
  have hL : [m, a].length = 2 := rfl
  refine contract_of mix Try.func119 rfl rfl (by rw [Try.ntmps119]; exact Nat.le_of_ble_eq_true rfl) ?_; rw [Try.results119, Try.ntmps119]; simp only [argsE, Nat.reduceAdd]
  repeat' first
           | (with_reducible apply go_op)
           | (with_reducible apply go_next)
           | ((with_reducible (show evOp _ _ _ _ _ _)); first
             | (((with_reducible apply go_mv_int); rfl; rfl))
             | ((with_reducible apply go_as))
             | (((with_reducible apply go_ld_agg); rfl; rfl; rfl; rfl))
             | (((with_reducible apply go_len_own); rfl; rfl; rfl))
             | (((with_reducible apply go_bx_agg); rfl; rfl; (exact Nat.le_of_ble_eq_true rfl); rfl; rfl))
             | (((with_reducible apply go_bs2_agg); rfl; rfl; rfl; rfl; rfl; rfl; rfl; rfl)))
           | ((with_reducible (show evOps _ _ _ _ _ _)); first
             | (with_reducible apply go_nil))
           | ((with_reducible (show ev _ _ _ _)); first
             | (with_reducible apply go_seq)
             | (with_reducible apply go_region)
             | (with_reducible apply go_block))
           | (with_reducible apply go_kseq)
  refine go_count 2 (fun i => ⟨[(12, .int .i64 i), (11, .int .i64 2), (10, .os 2 0 2), (2, .op 0 0 0), (3, .op 1 0 0)], [(2, ⟨6, true, [m, a].map encGrid⟩), (0, ⟨6, true, [encGrid m]⟩), (1, ⟨6, true, [encGrid a]⟩)], 32, 27⟩) (fun _ => True)
    (entails_eq (nx := 32) (k := 1) (ns := []) (ks := [12, 11, 10, 2, 3]) [(160, 2), (0, 0), (32, 1)] rfl (by simp) (by kernel_rfl)) trivial ?_
  intro i hi _
  by_cases hlt : i < [m, a].length
  · repeat' first
           | (with_reducible apply go_op)
           | (with_reducible apply go_next)
           | ((with_reducible (show evOp _ _ _ _ _ _)); first
             | (((with_reducible apply go_mv_int); rfl; rfl))
             | ((with_reducible apply go_as))
             | ((with_reducible (show evOp _ (.load _ _) _ _ _ _)) ; first | ((with_reducible apply go_load_om); rfl; rfl; rfl; rfl; rotate_left; assumption) | ((with_reducible apply go_ld_agg); rfl; rfl; rfl; rfl))
             | (((with_reducible apply go_index_om); rfl; rfl; rfl; (with_reducible rfl); rfl; rfl; omega; (intro hlt)))
             | ((with_reducible (show evOp _ (.binOp _ _ _ _ _) _ _ _ _)) ; first | ((with_reducible apply go_cmp); rfl; rfl; rfl; rfl) | ((with_reducible apply go_add); rfl; rfl; rfl; omega))
             | (((with_reducible apply go_fn_int); rfl; (exact h144 i hlt); rfl))
             | (((with_reducible apply go_st_agg); rfl; rfl; rfl; rfl; rfl; rfl; rfl))
             | (((with_reducible apply go_alloc); rfl; rfl; rfl)))
           | ((with_reducible (show evOps _ _ _ _ _ _)); first
             | (with_reducible apply go_nil)
             | ((with_reducible apply go_pre); rfl))
           | ((with_reducible (show ev _ _ _ _)); first
             | (with_reducible apply go_seq)
             | (with_reducible apply go_region)
             | ((with_reducible apply go_cond_f); rfl; rfl)
             | (((with_reducible apply go_cond); rfl) <;> (intro h; simp only [h]; try simp only [decide_eq_true_eq, decide_eq_false_iff_not, Bool.not_eq_true', Bool.not_eq_false', Bool.not_true, Bool.not_false] at h; try exact absurd trivial h))
             | ((with_reducible apply go_order); kernel_rfl; rfl)
             | (with_reducible apply go_skipc)
             | (with_reducible apply go_block)
             | (with_reducible apply go_exit))
           | (with_reducible apply go_kseq)
           | (with_reducible apply go_kblock)
           | (with_reducible apply go_kblock_exit)
           | (with_reducible apply go_kseq_exit)
    all_goals first
      | exact absurd hlt (by omega)
      | exact ⟨by omega, trivial, entails_eq (nx := 32) (k := 1) (ns := []) (ks := [12, 11, 10, 2, 3]) [(2, 2), (0, 0), (1, 1)] rfl (by simp) (by kernel_rfl)⟩
      | exact absurd rfl ‹_›
      | trace_state
  · repeat' first
           | (with_reducible apply go_op)
           | (with_reducible apply go_next)
           | ((with_reducible (show evOp _ _ _ _ _ _)); first
             | (((with_reducible apply go_mv_int); rfl; rfl))
             | ((with_reducible apply go_as))
             | ((with_reducible (show evOp _ (.load _ _) _ _ _ _)) ; first | ((with_reducible apply go_load_om); rfl; rfl; rfl; rfl; rotate_left; assumption) | ((with_reducible apply go_ld_agg); rfl; rfl; rfl; rfl))
             | (((with_reducible apply go_index_om); rfl; rfl; rfl; (with_reducible rfl); rfl; rfl; omega; (intro hlt)))
             | ((with_reducible (show evOp _ (.binOp _ _ _ _ _) _ _ _ _)) ; first | ((with_reducible apply go_cmp); rfl; rfl; rfl; rfl) | ((with_reducible apply go_neq_agg); rfl; rfl; rfl; rfl))
             | ((with_reducible (show evOp _ (.call _) _ _ _ _)) ; first | ((with_reducible apply go_fn_plain); rfl; (exact h162); rfl; (exact Nat.le_of_ble_eq_true rfl); rfl) | ((with_reducible apply go_fn_plain); rfl; (exact h162a); rfl; (exact Nat.le_of_ble_eq_true rfl); rfl))
             | (((with_reducible apply go_st_agg); rfl; rfl; rfl; rfl; rfl; rfl; rfl))
             | (((with_reducible apply go_alloc); rfl; rfl; rfl)))
           | ((with_reducible (show evOps _ _ _ _ _ _)); first
             | (with_reducible apply go_nil)
             | ((with_reducible apply go_pre); rfl)
             | (with_reducible apply go_pre_nil)
             | ((with_reducible apply go_suf); rfl)
             | (with_reducible apply go_suf_nil))
           | ((with_reducible (show ev _ _ _ _)); first
             | (with_reducible apply go_seq)
             | (with_reducible apply go_region)
             | (((with_reducible apply go_cond); rfl) <;> (intro h; simp only [h]; try simp only [decide_eq_true_eq, decide_eq_false_iff_not, Bool.not_eq_true', Bool.not_eq_false', Bool.not_true, Bool.not_false] at h; try exact absurd trivial h))
             | ((with_reducible apply go_order); kernel_rfl; rfl)
             | (with_reducible apply go_ret)
             | (with_reducible apply go_skipc)
             | (with_reducible apply go_block)
             | (with_reducible apply go_exit))
           | (with_reducible apply go_kseq)
           | (with_reducible apply go_ksuf)
           | (with_reducible apply go_kseq_ret)
           | (with_reducible apply go_kblock_exit)
           | (with_reducible apply go_kseq_exit)
           | ((with_reducible apply end_int); rfl)
           | (with_reducible rfl)
    all_goals first
      | exact absurd hlt (by omega)
      | rfl
      | (exfalso; clear e h144 h144a h144b h162 h162a; simp_all; done)
      | trace_state
end Go.Pv.Soil

open Go Go.Proofs Go.Pv
set_option maxHeartbeats 8000000
set_option maxRecDepth 100000
set_option linter.unusedSimpArgs false
set_option linter.unusedVariables false
namespace Go.Pv.Soil

def cutN (m a : Grid) : Nat → Int
  | 0 => 0
  | n + 1 => cutN m a n + if lv m.levels n ≠ 30000 ∧ lv a.levels n ≠ 30000 then m.side * m.side * dE (lv a.levels n) (lv m.levels n) else 0
def unkN (m a : Grid) : Nat → Int
  | 0 => 0
  | n + 1 => unkN m a n + if lv m.levels n ≠ 30000 ∧ lv a.levels n ≠ 30000 then 0 else 1
def fillN (m a : Grid) : Nat → Int
  | 0 => 0
  | n + 1 => fillN m a n + if lv m.levels n ≠ 30000 ∧ lv a.levels n ≠ 30000 then m.side * m.side * dE (lv m.levels n) (lv a.levels n) else 0
theorem dE_bd (a b : Int) : 0 ≤ dE a b ∧ dE a b ≤ 40000 := by unfold dE; omega
theorem area_bd {m : Grid} (hm : OkGrid m) (a b : Int) : (0 ≤ m.side * m.side ∧ m.side * m.side ≤ 100000000) ∧ 0 ≤ m.side * m.side * dE a b ∧ m.side * m.side * dE a b ≤ 4000000000000 := by
  have hs := hm.bds.2.1
  have h3 := nonneg_mul (a := m.side) (b := m.side) (m := 10000) (n := 10000) (by omega) (by omega)
  have h4 := nonneg_mul (a := m.side * m.side) (b := dE a b) (m := 100000000) (n := 40000) (by omega) (dE_bd a b)
  omega
theorem cutN_bd {m : Grid} (hm : OkGrid m) (a : Grid) : ∀ n : Nat, (0 ≤ cutN m a n ∧ cutN m a n ≤ 4000000000000 * (n : Int)) ∧ (0 ≤ fillN m a n ∧ fillN m a n ≤ 4000000000000 * (n : Int)) ∧ 0 ≤ unkN m a n ∧ unkN m a n ≤ n
  | 0 => by simp [cutN, fillN, unkN]
  | n + 1 => by
    have ih := cutN_bd hm a n
    have h1 := area_bd hm (lv a.levels n) (lv m.levels n)
    have h2 := area_bd hm (lv m.levels n) (lv a.levels n)
    simp only [cutN, fillN, unkN]
    split <;> omega

theorem c120 (m a : Grid) (hm : OkGrid m) (ha : OkGrid a) (hla : a.levels.length = m.levels.length) : Contract Try.prog 120 [.agg (encGrid m), .agg (encGrid a), .agg [.int .i64 (-20000), .int .i64 20000], .clo (.func 122) [] []] (.ret (.agg [.int .i64 (cutN m a m.levels.length), .int .i64 (fillN m a m.levels.length), .int .i64 (unkN m a m.levels.length)])) := by
  have hs := hm.small
  have har := (area_bd hm 0 0).1
  refine contract_of mix Try.func120 rfl rfl (by rw [Try.ntmps120]; exact Nat.le_of_ble_eq_true rfl) ?_; rw [Try.results120, Try.ntmps120]; simp only [argsE, Nat.reduceAdd]
  repeat' first
           | (with_reducible apply go_op)
           | (with_reducible apply go_next)
           | ((with_reducible (show evOp _ _ _ _ _ _)); first
             | (((with_reducible apply go_mv_int); rfl; rfl))
             | ((with_reducible apply go_as))
             | (((with_reducible apply go_load_own); rfl; rfl; rfl; rfl))
             | (((with_reducible apply go_fieldAddr_own); rfl; rfl; rfl))
             | (((with_reducible apply go_mul); rfl; rfl; rfl; omega))
             | (((with_reducible apply go_len); rfl; rfl))
             | (((with_reducible apply go_bx_agg); rfl; rfl; (exact Nat.le_of_ble_eq_true rfl); rfl; rfl))
             | (((with_reducible apply go_alloc); rfl; rfl; rfl)))
           | ((with_reducible (show evOps _ _ _ _ _ _)); first
             | (with_reducible apply go_nil))
           | ((with_reducible (show ev _ _ _ _)); first
             | (with_reducible apply go_seq)
             | (with_reducible apply go_region)
             | (with_reducible apply go_block))
           | (with_reducible apply go_kseq)
  refine go_count m.levels.length (fun i => ⟨[(22, .int .i64 i), (21, .int .i64 m.levels.length), (10, .int .i64 (m.side * m.side)), (9, .op 4 0 0), (8, .op 3 0 0), (6, .op 2 0 0), (4, .op 0 0 0), (5, .op 1 0 0), (3, .clo (.func 122) [] [])], [(0, ⟨6, true, [encGrid m]⟩), (1, ⟨6, true, [encGrid a]⟩), (2, ⟨2, true, [[.int .i64 (-20000), .int .i64 20000]]⟩), (3, ⟨3, true, [[.int .i64 0, .int .i64 0, .int .i64 0]]⟩), (4, ⟨3, true, [[.int .i64 (cutN m a i), .int .i64 (fillN m a i), .int .i64 (unkN m a i)]]⟩)], 32, 77⟩) (fun _ => True)
    (entails_eq (nx := 32) (k := 1) (ns := []) (ks := [22, 21, 10, 9, 8, 6, 4, 5, 3]) [(0, 0), (32, 1), (64, 2), (96, 3), (128, 4)] rfl (by simp) (by kernel_rfl)) trivial ?_
  intro i hi _
  by_cases hlt : i < m.levels.length
  · have hlia : i < a.levels.length := by omega
    have em := lv_get hlt
    have ea := lv_get hlia
    have rm := hm.rng i hlt
    have ra := ha.rng i hlia
    have hbd := cutN_bd hm a i
    have b1 := area_bd hm (lv a.levels i) (lv m.levels i)
    have b2 := area_bd hm (lv m.levels i) (lv a.levels i)
    have c1 := c163 m hm i hlt
    have c2 := c163 a ha i hlia
    have n1 : cutN m a (i + 1) = cutN m a i + if lv m.levels i ≠ 30000 ∧ lv a.levels i ≠ 30000 then m.side * m.side * dE (lv a.levels i) (lv m.levels i) else 0 := rfl
    have n2 : fillN m a (i + 1) = fillN m a i + if lv m.levels i ≠ 30000 ∧ lv a.levels i ≠ 30000 then m.side * m.side * dE (lv m.levels i) (lv a.levels i) else 0 := rfl
    have n3 : unkN m a (i + 1) = unkN m a i + if lv m.levels i ≠ 30000 ∧ lv a.levels i ≠ 30000 then 0 else 1 := rfl
    by_cases hk : lv m.levels i ≠ 30000 ∧ lv a.levels i ≠ 30000
    · rw [if_pos hk] at n1 n2 n3
      rw [decide_eq_false hk.1] at c1
      rw [decide_eq_false hk.2] at c2
      have rm' := rm hk.1
      have ra' := ra hk.2
      rw [em] at rm'
      rw [ea] at ra'
      rw [em, ea] at n1 n2 b1 b2
      have p1 := c164 a.levels[i] m.levels[i] ra' rm'
      have p2 := c164 m.levels[i] a.levels[i] rm' ra'
      repeat' first
           | (with_reducible apply go_op)
           | (with_reducible apply go_next)
           | ((with_reducible (show evOp _ _ _ _ _ _)); first
             | ((with_reducible (show evOp _ (.move _) _ _ _ _)) ; first | ((with_reducible apply go_mv_int); rfl; rfl) | ((with_reducible apply go_mv_clo); rfl; rfl))
             | ((with_reducible apply go_as))
             | ((with_reducible (show evOp _ (.load _ _) _ _ _ _)) ; first | ((with_reducible apply go_ld_agg); rfl; rfl; rfl; rfl) | ((with_reducible apply go_load); rfl; rfl; rfl) | ((with_reducible apply go_load_own); rfl; rfl; rfl; rfl))
             | (((with_reducible apply go_fieldAddr_own); rfl; rfl; rfl))
             | (((with_reducible apply go_index_nat); rfl; rfl; (with_reducible rfl); (intro; rfl); rfl; omega; (intro hlt)))
             | (((with_reducible apply go_cmp); rfl; rfl; rfl; rfl))
             | (((with_reducible apply go_st_agg); rfl; rfl; rfl; rfl; rfl; rfl; rfl)))
           | ((with_reducible (show evOps _ _ _ _ _ _)); first
             | (with_reducible apply go_nil)
             | ((with_reducible apply go_pre); rfl)
             | (with_reducible apply go_pre_nil)
             | ((with_reducible apply go_suf); rfl)
             | (with_reducible apply go_suf_nil))
           | ((with_reducible (show ev _ _ _ _)); first
             | (with_reducible apply go_seq)
             | (with_reducible apply go_region)
             | (((with_reducible apply go_cond); rfl) <;> (intro h; simp only [h]; try simp only [decide_eq_true_eq, decide_eq_false_iff_not, Bool.not_eq_true', Bool.not_eq_false', Bool.not_true, Bool.not_false] at h; try exact absurd trivial h))
             | ((with_reducible apply go_order); kernel_rfl; rfl)
             | (with_reducible apply go_ret)
             | (with_reducible apply go_skipc)
             | (with_reducible apply go_block)
             | (with_reducible apply go_exit))
           | (with_reducible apply go_kseq)
           | (with_reducible apply go_ksuf)
           | (with_reducible apply go_kblock_exit)
           | (with_reducible apply go_kseq_exit)
           | ((with_reducible apply end_agg); rfl; rfl)
      all_goals try exact absurd hlt (by omega)
      refine go_clo_bool rfl rfl (fun _ _ => rfl) (c122 i) rfl ?_
      repeat' first
           | (with_reducible apply go_op)
           | (with_reducible apply go_next)
           | ((with_reducible (show evOp _ _ _ _ _ _)); first
             | ((with_reducible (show evOp _ (.move _) _ _ _ _)) ; first | ((with_reducible apply go_mv_int); rfl; rfl) | ((with_reducible apply go_mv_bool); rfl; rfl))
             | ((with_reducible apply go_as))
             | ((with_reducible (show evOp _ (.load _ _) _ _ _ _)) ; first | ((with_reducible apply go_ld_agg); rfl; rfl; rfl; rfl) | ((with_reducible apply go_load_own); rfl; rfl; rfl; rfl))
             | (((with_reducible apply go_fieldAddr_own); rfl; rfl; rfl))
             | ((with_reducible (show evOp _ (.binOp _ _ _ _ _) _ _ _ _)) ; first | ((with_reducible apply go_add); rfl; rfl; rfl; omega) | ((with_reducible apply go_mul); rfl; rfl; rfl; omega))
             | ((with_reducible (show evOp _ (.call _) _ _ _ _)) ; first | ((with_reducible apply go_fn_bool); rfl; (exact c1); rfl) | ((with_reducible apply go_fn_bool); rfl; (exact c2); rfl) | ((with_reducible apply go_fn_int); rfl; (exact p1); rfl) | ((with_reducible apply go_fn_int); rfl; (exact p2); rfl))
             | (((with_reducible apply go_store); rfl; rfl; rfl; rfl; rfl; rfl; (exact Nat.le_of_ble_eq_true rfl); (first | exact Nat.le_of_ble_eq_true rfl | omega); rfl; rfl))
             | (((with_reducible apply go_not); rfl; rfl))
             | (((with_reducible apply go_pick); rfl; rfl; rfl)))
           | ((with_reducible (show evOps _ _ _ _ _ _)); first
             | (with_reducible apply go_nil)
             | ((with_reducible apply go_run); rfl; rfl)
             | ((with_reducible apply go_pre); rfl)
             | ((with_reducible apply go_pre_stop); rfl)
             | ((with_reducible apply go_suf); rfl)
             | ((with_reducible apply go_suf_stop); rfl))
           | ((with_reducible (show ev _ _ _ _)); first
             | (with_reducible apply go_seq)
             | (with_reducible apply go_region)
             | ((with_reducible apply go_cond_f); rfl; rfl)
             | ((with_reducible apply go_order); kernel_rfl; rfl))
           | (with_reducible apply go_kseq)
           | (with_reducible apply go_ksuf)
           | (with_reducible apply go_kblock)
      refine ⟨‹i < m.levels.length›, trivial, ?_⟩
      rw [n1, n2, n3, Int.add_zero]
      exact entails_eq (nx := 32) (k := 1) (ns := []) (ks := [22, 21, 10, 9, 8, 6, 4, 5, 3]) [(0, 0), (1, 1), (2, 2), (3, 3), (4, 4)] rfl (by simp) (by kernel_rfl)
    · rw [if_neg hk] at n1 n2 n3
      rw [Int.add_zero] at n1 n2
      by_cases hkm : lv m.levels i = 30000
      · rw [decide_eq_true hkm] at c1
        repeat' first
           | (with_reducible apply go_op)
           | (with_reducible apply go_next)
           | ((with_reducible (show evOp _ _ _ _ _ _)); first
             | ((with_reducible (show evOp _ (.move _) _ _ _ _)) ; first | ((with_reducible apply go_mv_int); rfl; rfl) | ((with_reducible apply go_mv_clo); rfl; rfl))
             | ((with_reducible apply go_as))
             | ((with_reducible (show evOp _ (.load _ _) _ _ _ _)) ; first | ((with_reducible apply go_ld_agg); rfl; rfl; rfl; rfl) | ((with_reducible apply go_load); rfl; rfl; rfl) | ((with_reducible apply go_load_own); rfl; rfl; rfl; rfl))
             | (((with_reducible apply go_fieldAddr_own); rfl; rfl; rfl))
             | (((with_reducible apply go_index_nat); rfl; rfl; (with_reducible rfl); (intro; rfl); rfl; omega; (intro hlt)))
             | (((with_reducible apply go_cmp); rfl; rfl; rfl; rfl))
             | (((with_reducible apply go_st_agg); rfl; rfl; rfl; rfl; rfl; rfl; rfl)))
           | ((with_reducible (show evOps _ _ _ _ _ _)); first
             | (with_reducible apply go_nil)
             | ((with_reducible apply go_pre); rfl)
             | (with_reducible apply go_pre_nil)
             | ((with_reducible apply go_suf); rfl)
             | (with_reducible apply go_suf_nil))
           | ((with_reducible (show ev _ _ _ _)); first
             | (with_reducible apply go_seq)
             | (with_reducible apply go_region)
             | (((with_reducible apply go_cond); rfl) <;> (intro h; simp only [h]; try simp only [decide_eq_true_eq, decide_eq_false_iff_not, Bool.not_eq_true', Bool.not_eq_false', Bool.not_true, Bool.not_false] at h; try exact absurd trivial h))
             | ((with_reducible apply go_order); kernel_rfl; rfl)
             | (with_reducible apply go_ret)
             | (with_reducible apply go_skipc)
             | (with_reducible apply go_block)
             | (with_reducible apply go_exit))
           | (with_reducible apply go_kseq)
           | (with_reducible apply go_ksuf)
           | (with_reducible apply go_kblock_exit)
           | (with_reducible apply go_kseq_exit)
           | ((with_reducible apply end_agg); rfl; rfl)
        all_goals try exact absurd hlt (by omega)
        refine go_clo_bool rfl rfl (fun _ _ => rfl) (c122 i) rfl ?_
        repeat' first
           | (with_reducible apply go_op)
           | (with_reducible apply go_next)
           | ((with_reducible (show evOp _ _ _ _ _ _)); first
             | ((with_reducible (show evOp _ (.move _) _ _ _ _)) ; first | ((with_reducible apply go_mv_int); rfl; rfl) | ((with_reducible apply go_mv_bool); rfl; rfl))
             | ((with_reducible apply go_as))
             | ((with_reducible (show evOp _ (.load _ _) _ _ _ _)) ; first | ((with_reducible apply go_ld_agg); rfl; rfl; rfl; rfl) | ((with_reducible apply go_load_own); rfl; rfl; rfl; rfl))
             | (((with_reducible apply go_fieldAddr_own); rfl; rfl; rfl))
             | (((with_reducible apply go_add); rfl; rfl; rfl; omega))
             | (((with_reducible apply go_fn_bool); rfl; (exact c1); rfl))
             | (((with_reducible apply go_store); rfl; rfl; rfl; rfl; rfl; rfl; (exact Nat.le_of_ble_eq_true rfl); (first | exact Nat.le_of_ble_eq_true rfl | omega); rfl; rfl))
             | (((with_reducible apply go_not); rfl; rfl))
             | (((with_reducible apply go_pick); rfl; rfl; rfl)))
           | ((with_reducible (show evOps _ _ _ _ _ _)); first
             | (with_reducible apply go_nil)
             | ((with_reducible apply go_pass); rfl; rfl; rfl))
           | ((with_reducible (show ev _ _ _ _)); first
             | (with_reducible apply go_seq)
             | (with_reducible apply go_region)
             | ((with_reducible apply go_cond_t); rfl; rfl)
             | ((with_reducible apply go_cond_f); rfl; rfl))
           | (with_reducible apply go_kseq)
           | (with_reducible apply go_kblock)
        refine ⟨‹i < m.levels.length›, trivial, ?_⟩
        rw [n1, n2, n3]
        exact entails_eq (nx := 32) (k := 1) (ns := []) (ks := [22, 21, 10, 9, 8, 6, 4, 5, 3]) [(0, 0), (1, 1), (2, 2), (3, 3), (4, 4)] rfl (by simp) (by kernel_rfl)
      · have hka : lv a.levels i = 30000 := by omega
        rw [decide_eq_false hkm] at c1
        rw [decide_eq_true hka] at c2
        repeat' first
           | (with_reducible apply go_op)
           | (with_reducible apply go_next)
           | ((with_reducible (show evOp _ _ _ _ _ _)); first
             | ((with_reducible (show evOp _ (.move _) _ _ _ _)) ; first | ((with_reducible apply go_mv_int); rfl; rfl) | ((with_reducible apply go_mv_clo); rfl; rfl))
             | ((with_reducible apply go_as))
             | ((with_reducible (show evOp _ (.load _ _) _ _ _ _)) ; first | ((with_reducible apply go_ld_agg); rfl; rfl; rfl; rfl) | ((with_reducible apply go_load); rfl; rfl; rfl) | ((with_reducible apply go_load_own); rfl; rfl; rfl; rfl))
             | (((with_reducible apply go_fieldAddr_own); rfl; rfl; rfl))
             | (((with_reducible apply go_index_nat); rfl; rfl; (with_reducible rfl); (intro; rfl); rfl; omega; (intro hlt)))
             | (((with_reducible apply go_cmp); rfl; rfl; rfl; rfl))
             | (((with_reducible apply go_st_agg); rfl; rfl; rfl; rfl; rfl; rfl; rfl)))
           | ((with_reducible (show evOps _ _ _ _ _ _)); first
             | (with_reducible apply go_nil)
             | ((with_reducible apply go_pre); rfl)
             | (with_reducible apply go_pre_nil)
             | ((with_reducible apply go_suf); rfl)
             | (with_reducible apply go_suf_nil))
           | ((with_reducible (show ev _ _ _ _)); first
             | (with_reducible apply go_seq)
             | (with_reducible apply go_region)
             | (((with_reducible apply go_cond); rfl) <;> (intro h; simp only [h]; try simp only [decide_eq_true_eq, decide_eq_false_iff_not, Bool.not_eq_true', Bool.not_eq_false', Bool.not_true, Bool.not_false] at h; try exact absurd trivial h))
             | ((with_reducible apply go_order); kernel_rfl; rfl)
             | (with_reducible apply go_ret)
             | (with_reducible apply go_skipc)
             | (with_reducible apply go_block)
             | (with_reducible apply go_exit))
           | (with_reducible apply go_kseq)
           | (with_reducible apply go_ksuf)
           | (with_reducible apply go_kblock_exit)
           | (with_reducible apply go_kseq_exit)
           | ((with_reducible apply end_agg); rfl; rfl)
        all_goals try exact absurd hlt (by omega)
        refine go_clo_bool rfl rfl (fun _ _ => rfl) (c122 i) rfl ?_
        repeat' first
           | (with_reducible apply go_op)
           | (with_reducible apply go_next)
           | ((with_reducible (show evOp _ _ _ _ _ _)); first
             | ((with_reducible (show evOp _ (.move _) _ _ _ _)) ; first | ((with_reducible apply go_mv_int); rfl; rfl) | ((with_reducible apply go_mv_bool); rfl; rfl))
             | ((with_reducible apply go_as))
             | ((with_reducible (show evOp _ (.load _ _) _ _ _ _)) ; first | ((with_reducible apply go_ld_agg); rfl; rfl; rfl; rfl) | ((with_reducible apply go_load_own); rfl; rfl; rfl; rfl))
             | (((with_reducible apply go_fieldAddr_own); rfl; rfl; rfl))
             | (((with_reducible apply go_add); rfl; rfl; rfl; omega))
             | ((with_reducible (show evOp _ (.call _) _ _ _ _)) ; first | ((with_reducible apply go_fn_bool); rfl; (exact c1); rfl) | ((with_reducible apply go_fn_bool); rfl; (exact c2); rfl))
             | (((with_reducible apply go_store); rfl; rfl; rfl; rfl; rfl; rfl; (exact Nat.le_of_ble_eq_true rfl); (first | exact Nat.le_of_ble_eq_true rfl | omega); rfl; rfl))
             | (((with_reducible apply go_not); rfl; rfl))
             | (((with_reducible apply go_pick); rfl; rfl; rfl)))
           | ((with_reducible (show evOps _ _ _ _ _ _)); first
             | (with_reducible apply go_nil)
             | ((with_reducible apply go_run); rfl; rfl))
           | ((with_reducible (show ev _ _ _ _)); first
             | (with_reducible apply go_seq)
             | (with_reducible apply go_region)
             | ((with_reducible apply go_cond_t); rfl; rfl)
             | ((with_reducible apply go_cond_f); rfl; rfl))
           | (with_reducible apply go_kseq)
           | (with_reducible apply go_kblock)
        refine ⟨‹i < m.levels.length›, trivial, ?_⟩
        rw [n1, n2, n3]
        exact entails_eq (nx := 32) (k := 1) (ns := []) (ks := [22, 21, 10, 9, 8, 6, 4, 5, 3]) [(0, 0), (1, 1), (2, 2), (3, 3), (4, 4)] rfl (by simp) (by kernel_rfl)
  · have e : i = m.levels.length := by omega
    subst e
    repeat' first
           | (with_reducible apply go_op)
           | (with_reducible apply go_next)
           | ((with_reducible (show evOp _ _ _ _ _ _)); first
             | ((with_reducible (show evOp _ (.move _) _ _ _ _)) ; first | ((with_reducible apply go_mv_int); rfl; rfl) | ((with_reducible apply go_mv_clo); rfl; rfl))
             | ((with_reducible apply go_as))
             | ((with_reducible (show evOp _ (.load _ _) _ _ _ _)) ; first | ((with_reducible apply go_ld_agg); rfl; rfl; rfl; rfl) | ((with_reducible apply go_load); rfl; rfl; rfl) | ((with_reducible apply go_load_own); rfl; rfl; rfl; rfl))
             | (((with_reducible apply go_fieldAddr_own); rfl; rfl; rfl))
             | (((with_reducible apply go_index_nat); rfl; rfl; (with_reducible rfl); (intro; rfl); rfl; omega; (intro hlt)))
             | (((with_reducible apply go_cmp); rfl; rfl; rfl; rfl))
             | (((with_reducible apply go_st_agg); rfl; rfl; rfl; rfl; rfl; rfl; rfl)))
           | ((with_reducible (show evOps _ _ _ _ _ _)); first
             | (with_reducible apply go_nil)
             | ((with_reducible apply go_pre); rfl)
             | (with_reducible apply go_pre_nil)
             | ((with_reducible apply go_suf); rfl)
             | (with_reducible apply go_suf_nil))
           | ((with_reducible (show ev _ _ _ _)); first
             | (with_reducible apply go_seq)
             | (with_reducible apply go_region)
             | (((with_reducible apply go_cond); rfl) <;> (intro h; simp only [h]; try simp only [decide_eq_true_eq, decide_eq_false_iff_not, Bool.not_eq_true', Bool.not_eq_false', Bool.not_true, Bool.not_false] at h; try exact absurd trivial h))
             | ((with_reducible apply go_order); kernel_rfl; rfl)
             | (with_reducible apply go_ret)
             | (with_reducible apply go_skipc)
             | (with_reducible apply go_block)
             | (with_reducible apply go_exit))
           | (with_reducible apply go_kseq)
           | (with_reducible apply go_ksuf)
           | (with_reducible apply go_kblock_exit)
           | (with_reducible apply go_kseq_exit)
           | ((with_reducible apply end_agg); rfl; rfl)
    all_goals first
      | exact absurd hlt (by omega)
      | (rw [show Try.prog.cellsOf 112 = 3 by kernel_rfl]; rfl)
      | trace_state

theorem c68 (m a : Grid) (h1 : gridE m = 0) (h2 : gridE a = 0) (h3 : alikeE m a = true) : Contract Try.prog 68 [.agg (encGrid m), .agg (encGrid a)] (.ret (.tup [.agg [.int .i64 (cutN m a m.levels.length), .int .i64 (fillN m a m.levels.length), .int .i64 (unkN m a m.levels.length)], .int .i64 0])) := by
  have hm := okGrid h1
  have ha := okGrid h2
  have hla := alike_len hm ha h3
  have hs := hm.small
  have h119 := c119 m a (by omega) (by omega) h1 h2 h3
  have h120 := c120 m a hm ha hla
  generalize cutN m a m.levels.length = x at *
  generalize fillN m a m.levels.length = y at *
  generalize unkN m a m.levels.length = z at *
  refine contract_of mix Try.func68 rfl rfl (by rw [Try.ntmps68]; exact Nat.le_of_ble_eq_true rfl) ?_; rw [Try.results68, Try.ntmps68]; simp only [argsE, Nat.reduceAdd]
  repeat' first
           | (with_reducible apply go_op)
           | (with_reducible apply go_next)
           | ((with_reducible (show evOp _ _ _ _ _ _)); first
             | (((with_reducible apply go_mv_int); rfl; rfl))
             | ((with_reducible apply go_as))
             | (((with_reducible apply go_ld_agg); rfl; rfl; rfl; rfl))
             | (((with_reducible apply go_cmp); rfl; rfl; rfl; rfl))
             | ((with_reducible (show evOp _ (.call _) _ _ _ _)) ; first | ((with_reducible apply go_fn_int); rfl; (exact h119); rfl) | ((with_reducible apply go_fn_plain); rfl; (exact c121); rfl; (exact Nat.le_of_ble_eq_true rfl); rfl) | ((with_reducible apply go_fn_plain); rfl; (exact h120); rfl; (exact Nat.le_of_ble_eq_true rfl); rfl))
             | (((with_reducible apply go_st_agg); rfl; rfl; rfl; rfl; rfl; rfl; rfl))
             | (((with_reducible apply go_bx_agg); rfl; rfl; (exact Nat.le_of_ble_eq_true rfl); rfl; rfl))
             | (((with_reducible apply go_alloc); rfl; rfl; rfl)))
           | ((with_reducible (show evOps _ _ _ _ _ _)); first
             | (with_reducible apply go_nil)
             | ((with_reducible apply go_pre); rfl)
             | ((with_reducible apply go_pre_stop); rfl)
             | ((with_reducible apply go_suf); rfl)
             | ((with_reducible apply go_suf_stop); rfl))
           | ((with_reducible (show ev _ _ _ _)); first
             | (with_reducible apply go_seq)
             | (with_reducible apply go_region)
             | ((with_reducible apply go_cond_f); rfl; rfl)
             | ((with_reducible apply go_order); kernel_rfl; rfl)
             | (with_reducible apply go_ret)
             | (with_reducible apply go_skipc))
           | (with_reducible apply go_kseq)
           | (with_reducible apply go_ksuf)
           | ((with_reducible apply end_t2); rfl; rfl; rfl; rfl)
  all_goals first
    | exact absurd rfl ‹_›
    | (rw [show Try.prog.cellsOf 112 = 3 by kernel_rfl]; rfl)
    | rfl
    | trace_state
end Go.Pv.Soil

import Derived.Test.YtdedpndkohfgbaaGreatProg
import Derived.Test.YtdedpndkohfgbaaGreatWAG
import Derived.KernelRfl
import Derived.Test.YtdedpndkohfgbaaGreatWAD
import Derived.Test.YtdedpndkohfgbaaGreatWAF
import Derived.Test.YtdedpndkohfgbaaGreatWAC
/- Part of the proofs over YtdedpndkohfgbaaGreat: V1, V2, V3, R0, R2, R6. -/
set_option linter.unusedVariables false
set_option linter.unusedSimpArgs false
set_option linter.unnecessarySimpa false
open Go Go.Proofs Go.Pv
set_option maxHeartbeats 8000000
set_option maxRecDepth 100000
set_option linter.unusedSimpArgs false
set_option linter.unusedVariables false
namespace Go.Pv.Soil
open Classical in
theorem wedV_eq {q : Quay} (hq : quayE q = 0) (m : Grid) (k : Nat) (hp : Geo.ptOK (cenG m k) = true) : wedV q m k = if frontE q (cenG m k) then (if wedgeL q (cenG m k) < -20000 then 30000 else wedgeL q (cenG m k)) else 30000 := by
  unfold wedV wedgeE
  by_cases hf : frontE q (cenG m k)
  · rw [if_pos hf, if_pos hf]
    by_cases hl : wedgeL q (cenG m k) < -20000
    · rw [if_pos hl]; simp only [decide_eq_false (show ¬ -20000 ≤ wedgeL q (cenG m k) by omega)]; rfl
    · rw [if_neg hl]; simp only [decide_eq_true (show -20000 ≤ wedgeL q (cenG m k) by omega)]; rfl
  · rw [if_neg hf, if_neg hf]; rfl
theorem cWedgeAt (q : Quay) (hq : quayE q = 0) (m : Grid) (k : Nat) (hp : Geo.ptOK (cenG m k) = true) : Contract Tryz.prog 49 [.agg (encQuay q), .agg (gP (cenG m k))] (.ret (.int .i64 (wedV q m k))) := by
  have hv := wedV_eq hq m k hp
  obtain ⟨⟨ka, kb⟩, ⟨kt, kr⟩, hne⟩ := quay_ok hq
  generalize cenG m k = p at *
  have x1 : Contract Tryz.prog 83 [.agg (gP q.a), .agg (gP q.b), .agg (gP p)] (.ret (.int .i64 (Geo.alongE q.a q.b p))) := Geo.c_rAlong q.a q.b p ka kb hp hne
  have x2 : Contract Tryz.prog 85 [.agg (gP q.a), .agg (gP q.b), .agg (gP p)] (.ret (.int .i64 (Geo.offE q.a q.b p))) := Geo.c_rOffset q.a q.b p ka kb hp hne
  have x3 : Contract Tryz.prog 82 [.agg (gP q.a), .agg (gP q.b), .agg (gP p)] (.ret (.int .i64 (Geo.signE (Geo.crossE q.a q.b p)))) := Geo.c_rorient q.a q.b p ka kb hp
  have x4 : Contract Tryz.prog 84 [.agg (gP q.a), .agg (gP q.b)] (.ret (.int .i64 (Geo.spanE (Geo.sqE q.a q.b)))) := Geo.c_rSpan q.a q.b ka kb
  have ho := off_bd ka kb hp
  have ht : -20000 ≤ q.toe ∧ q.toe ≤ 20000 := by simpa [lvOK] using kt
  have hd : 0 ≤ 10 * Geo.offE q.a q.b p / q.run := Int.ediv_nonneg (by omega) (by omega)
  have hd2 : 10 * Geo.offE q.a q.b p / q.run ≤ 80000000000000 := Int.le_trans (Int.ediv_le_self _ (by omega)) (by omega)
  have hsg : Geo.signE (Geo.crossE q.a q.b p) < 0 ↔ ¬ 0 ≤ Geo.crossE q.a q.b p := by unfold Geo.signE; (repeat' split) <;> omega
  unfold frontE wedgeL at hv
  unfold gP at x1 x2 x3 x4 ⊢
  generalize Geo.alongE q.a q.b p = A at *
  generalize Geo.offE q.a q.b p = O at *
  generalize Geo.signE (Geo.crossE q.a q.b p) = G at *
  generalize Geo.crossE q.a q.b p = C at *
  generalize Geo.spanE (Geo.sqE q.a q.b) = T at *
  rw [hv]
  clear hv
  refine contract_of mix Tryz.func49 rfl rfl (by rw [Tryz.ntmps49]; exact Nat.le_of_ble_eq_true rfl) ?_; rw [Tryz.results49, Tryz.ntmps49]; simp only [argsE, Nat.reduceAdd]
  repeat' first
           | (with_reducible apply go_op)
           | (with_reducible apply go_next)
           | ((with_reducible (show evOp _ _ _ _ _ _)); first
             | ((with_reducible (show evOp _ (.move _) _ _ _ _)) ; first | ((with_reducible apply go_mv_int); rfl; rfl) | ((with_reducible apply go_mv_bool); rfl; rfl))
             | ((with_reducible apply go_as))
             | ((with_reducible (show evOp _ (.load _ _) _ _ _ _)) ; first | ((with_reducible apply go_ld_agg); rfl; rfl; rfl; rfl) | ((with_reducible apply go_load_own); rfl; rfl; rfl; rfl))
             | (((with_reducible apply go_fieldAddr_own); rfl; rfl; rfl))
             | ((with_reducible (show evOp _ (.binOp _ _ _ _ _) _ _ _ _)) ; first | ((with_reducible apply go_cmp); rfl; rfl; rfl; rfl) | ((with_reducible apply go_sub); rfl; rfl; rfl; omega) | ((with_reducible apply go_mul); rfl; rfl; rfl; omega) | ((with_reducible apply go_quo_pos); rfl; rfl; rfl; omega))
             | ((with_reducible (show evOp _ (.call _) _ _ _ _)) ; first | ((with_reducible apply go_fn_int); rfl; (exact x1); rfl) | ((with_reducible apply go_fn_int); rfl; (exact x2); rfl) | ((with_reducible apply go_fn_int); rfl; (exact x3); rfl) | ((with_reducible apply go_fn_int); rfl; (exact x4); rfl) | ((with_reducible apply go_fn_bool); rfl; (exact Geo.c_within _ _ _); rfl))
             | (((with_reducible apply go_not); rfl; rfl))
             | (((with_reducible apply go_pick); rfl; rfl; rfl))
             | (((with_reducible apply go_bx_agg); rfl; rfl; (exact Nat.le_of_ble_eq_true rfl); rfl; rfl)))
           | ((with_reducible (show evOps _ _ _ _ _ _)); first
             | (with_reducible apply go_nil)
             | ((with_reducible apply go_run); rfl; rfl)
             | ((with_reducible apply go_pass); rfl; rfl; rfl)
             | (((with_reducible apply go_guard); rfl) <;> (intro h; simp only [h, Bool.not_true, Bool.not_false]; (try with_reducible (refine ⟨rfl, ?_⟩)); try simp only [decide_eq_true_eq, decide_eq_false_iff_not, Bool.not_eq_true', Bool.not_eq_false', Bool.not_true, Bool.not_false] at h; try exact absurd trivial h))
             | ((with_reducible apply go_pre); rfl)
             | (with_reducible apply go_pre_nil)
             | ((with_reducible apply go_suf); rfl)
             | (with_reducible apply go_suf_nil))
           | ((with_reducible (show evG _ _ _ _ _)); first
             | (with_reducible apply go_seq)
             | (with_reducible apply go_region)
             | ((with_reducible apply go_cond_t); rfl; rfl)
             | (((with_reducible apply go_cond); rfl) <;> (intro h; simp only [h]; try simp only [decide_eq_true_eq, decide_eq_false_iff_not, Bool.not_eq_true', Bool.not_eq_false', Bool.not_true, Bool.not_false] at h; try exact absurd trivial h))
             | ((with_reducible apply go_order); kernel_rfl; rfl)
             | (with_reducible apply go_ret)
             | (with_reducible apply go_skipc))
           | (with_reducible apply go_kseq)
           | (with_reducible apply go_ksuf)
           | (with_reducible apply go_kseq_ret)
           | ((with_reducible apply end_int); rfl)
  all_goals first
    | (exfalso; omega)
    | (rw [if_pos (by omega), if_pos (by omega)]; done)
    | (rw [if_pos (by omega), if_neg (by omega)]; done)
    | (rw [if_neg (by omega)]; done)
    | trace_state
/-- The levels of a grid, the first ones replaced by a quay's wedge. -/
noncomputable def wedM (q : Quay) (m : Grid) (i : Nat) : List Int := (List.range m.levels.length).map fun k => if k < i then wedV q m k else m.levels.getD k 0
theorem wedM_len (q : Quay) (m : Grid) (i : Nat) : (wedM q m i).length = m.levels.length := by simp [wedM]
theorem wedM_0 (q : Quay) (m : Grid) : m.levels = wedM q m 0 := by
  apply List.ext_getElem
  · simp [wedM]
  · intro i h1 h2; simp [wedM, h1]
theorem wedM_all (q : Quay) (m : Grid) : wedM q m m.levels.length = wedL q m m.levels.length m.levels.length := by
  apply List.ext_getElem
  · simp [wedM, wedL]
  · intro i h1 h2
    have hi : i < m.levels.length := by simpa [wedM] using h1
    simp [wedM, wedL, hi]
theorem wedM_set {q : Quay} {m : Grid} {i : Nat} (hi : i < m.levels.length) : (wedM q m i).set i (wedV q m i) = wedM q m (i + 1) := by
  apply List.ext_getElem
  · simp [wedM]
  · intro j h1 h2
    simp only [List.getElem_set, wedM, List.getElem_map, List.getElem_range]
    by_cases hj : i = j
    · subst hj; rw [if_pos rfl, if_pos (by omega)]
    · rw [if_neg hj]
      by_cases hlt : j < i
      · rw [if_pos hlt, if_pos (by omega)]
      · rw [if_neg hlt, if_neg (by omega)]
theorem cWedge (q : Quay) (hq : quayE q = 0) (m : Grid) (hm : OkGrid m) (h0 : gridE m = 0) (hl : m.levels.length ≤ 1000000000) : Contract Tryz.prog 16 [.agg (encQuay q), .agg (encGrid m)] (.ret (.agg (encG5 m ++ [.fr 1 ((wedL q m m.levels.length m.levels.length).map encInt)]))) := by
  have hc : Contract Tryz.prog 48 [.agg (encGrid m)] (.ret (.agg (encG5 m ++ [.fr 1 ((wedM q m 0).map encInt)]))) := by rw [← wedM_0]; exact c91 m hl
  refine contract_of mix Tryz.func16 rfl rfl (by rw [Tryz.ntmps16]; exact Nat.le_of_ble_eq_true rfl) ?_; rw [Tryz.results16, Tryz.ntmps16]; simp only [argsE, Nat.reduceAdd]
  repeat' first
           | (with_reducible apply go_op)
           | (with_reducible apply go_next)
           | ((with_reducible (show evOp _ _ _ _ _ _)); first
             | (((with_reducible apply go_mv_int); rfl; rfl))
             | ((with_reducible apply go_as))
             | (((with_reducible apply go_ld_agg); rfl; rfl; rfl; rfl))
             | (((with_reducible apply (go_fn_agf (cs := encG5 m))); rfl; (exact hc); (exact scalInt); rfl; rfl; rfl; rfl; rfl))
             | (((with_reducible apply go_st_agg); rfl; rfl; rfl; rfl; rfl; rfl; rfl))
             | (((with_reducible apply go_bx_agg); rfl; rfl; (exact Nat.le_of_ble_eq_true rfl); rfl; rfl))
             | (((with_reducible apply go_alloc); rfl; rfl; rfl)))
           | ((with_reducible (show evOps _ _ _ _ _ _)); first
             | (with_reducible apply go_nil))
           | ((with_reducible (show evG _ _ _ _ _)); first
             | (with_reducible apply go_seq)
             | (with_reducible apply go_region)
             | (with_reducible apply go_block))
           | (with_reducible apply go_kseq)
  simp only [wedM_len]
  refine go_count m.levels.length (fun i => ⟨[(6, .int .i64 i), (5, .op 2 0 0), (4, .op 3 0 0), (3, .op 1 0 0), (2, .op 0 0 0)], [(0, ⟨7, true, [encQuay q]⟩), (1, ⟨6, true, [encGrid m]⟩), (2, ⟨6, false, [encG5 m ++ [.os 4 0 m.levels.length]]⟩), (3, ⟨6, false, [[.int .i64 0, .int .i64 0, .int .i64 0, .int .i64 0, .int .i64 0, .nilsl]]⟩), (4, ⟨1, true, (wedM q m i).map encInt⟩)], 32, 26⟩) (fun i => True)
    (entails_eq (nx := 32) (k := 0) (ns := []) (ks := [6, 5, 4, 3, 2]) [(0, 0), (32, 1), (160, 2), (64, 3), (133, 4)] rfl (by simp) (by kernel_rfl)) trivial ?_
  intro i hi _
  by_cases hlt : i < m.levels.length
  · have hp := cen_ok hm hlt
    have y1 : Contract Tryz.prog 50 [.agg (encGrid m), .int .i64 i] (.ret (.agg (gP (cenG m i)))) := c103 m hm i hlt
    have y2 := cWedgeAt q hq m i hp
    have hwl := wedM_len q m i
    have hws := wedM_set (q := q) hlt
    generalize wedV q m i = v at *
    repeat' first
           | (with_reducible apply go_op)
           | (with_reducible apply go_next)
           | ((with_reducible (show evOp _ _ _ _ _ _)); first
             | (((with_reducible apply go_mv_int); rfl; rfl))
             | ((with_reducible (show evOp _ (.load _ _) _ _ _ _)) ; first | ((with_reducible apply go_ld_agg); rfl; rfl; rfl; rfl) | ((with_reducible apply go_load_own); rfl; rfl; rfl; rfl))
             | (((with_reducible apply go_fieldAddr_own); rfl; rfl; rfl))
             | (((with_reducible apply go_index_om); rfl; rfl; rfl; (with_reducible rfl); rfl; rfl; omega; (intro hlt)))
             | (((with_reducible apply go_cmp); rfl; rfl; rfl; rfl))
             | ((with_reducible (show evOp _ (.call _) _ _ _ _)) ; first | ((with_reducible apply go_len_own); rfl; rfl; rfl) | ((with_reducible apply go_fn_plain); rfl; (exact y1); rfl; (exact Nat.le_of_ble_eq_true rfl); rfl) | ((with_reducible apply go_fn_int); rfl; (exact y2); rfl))
             | (((with_reducible apply go_st_agg); rfl; rfl; rfl; rfl; rfl; rfl; rfl)))
           | ((with_reducible (show evOps _ _ _ _ _ _)); first
             | (with_reducible apply go_nil)
             | ((with_reducible apply go_pre); rfl)
             | ((with_reducible apply go_pre_stop); rfl)
             | ((with_reducible apply go_suf); rfl)
             | ((with_reducible apply go_suf_stop); rfl))
           | ((with_reducible (show evG _ _ _ _ _)); first
             | (with_reducible apply go_seq)
             | (with_reducible apply go_region)
             | (((with_reducible apply go_cond); rfl) <;> (intro h; simp only [h]; try simp only [decide_eq_true_eq, decide_eq_false_iff_not, Bool.not_eq_true', Bool.not_eq_false', Bool.not_true, Bool.not_false] at h; try exact absurd trivial h))
             | ((with_reducible apply go_order); kernel_rfl; rfl)
             | (with_reducible apply go_ret)
             | (with_reducible apply go_skipc)
             | (with_reducible apply go_block)
             | (with_reducible apply go_exit))
           | (with_reducible apply go_kseq)
           | (with_reducible apply go_ksuf)
           | (with_reducible apply go_kblock_exit)
           | (with_reducible apply go_kseq_exit)
    all_goals try (exfalso; omega)
    refine go_store_om (f := encInt) (l := wedM q m i) (a := v) rfl rfl rfl (by omega) rfl rfl rfl rfl (Nat.le_of_ble_eq_true rfl) rfl ?_
    rw [hws]
    repeat' first
           | (with_reducible apply go_op)
           | (with_reducible apply go_next)
           | ((with_reducible (show evOp _ _ _ _ _ _)); first
             | (((with_reducible apply go_mv_int); rfl; rfl))
             | ((with_reducible apply go_as))
             | (((with_reducible apply go_add); rfl; rfl; rfl; omega)))
           | ((with_reducible (show evOps _ _ _ _ _ _)); first
             | (with_reducible apply go_nil))
           | ((with_reducible (show evG _ _ _ _ _)); first
             | (with_reducible apply go_region))
           | (with_reducible apply go_kseq)
           | (with_reducible apply go_kblock)
    exact ⟨by omega, trivial, entails_eq (nx := 32) (k := 0) (ns := []) (ks := [6, 5, 4, 3, 2]) [(0, 0), (1, 1), (2, 2), (3, 3), (4, 4)] rfl (by simp) (by kernel_rfl)⟩
  · have e : i = m.levels.length := by omega
    subst e
    rw [wedM_all]
    repeat' first
           | (with_reducible apply go_op)
           | (with_reducible apply go_next)
           | ((with_reducible (show evOp _ _ _ _ _ _)); first
             | (((with_reducible apply go_mv_int); rfl; rfl))
             | ((with_reducible (show evOp _ (.load _ _) _ _ _ _)) ; first | ((with_reducible apply go_ld_agg); rfl; rfl; rfl; rfl) | ((with_reducible apply go_load_own); rfl; rfl; rfl; rfl))
             | (((with_reducible apply go_fieldAddr_own); rfl; rfl; rfl))
             | (((with_reducible apply go_cmp); rfl; rfl; rfl; rfl))
             | (((with_reducible apply go_len_own); rfl; rfl; rfl))
             | (((with_reducible apply go_st_agg); rfl; rfl; rfl; rfl; rfl; rfl; rfl)))
           | ((with_reducible (show evOps _ _ _ _ _ _)); first
             | (with_reducible apply go_nil)
             | ((with_reducible apply go_pre); rfl))
           | ((with_reducible (show evG _ _ _ _ _)); first
             | (with_reducible apply go_seq)
             | (with_reducible apply go_region)
             | (((with_reducible apply go_cond); rfl) <;> (intro h; simp only [h]; try simp only [decide_eq_true_eq, decide_eq_false_iff_not, Bool.not_eq_true', Bool.not_eq_false', Bool.not_true, Bool.not_false] at h; try exact absurd trivial h))
             | ((with_reducible apply go_order); kernel_rfl; rfl)
             | (with_reducible apply go_ret)
             | (with_reducible apply go_skipc)
             | (with_reducible apply go_block)
             | (with_reducible apply go_exit))
           | (with_reducible apply go_kseq)
           | (with_reducible apply go_kblock_exit)
           | (with_reducible apply go_kseq_exit)
    all_goals first
      | (exfalso; omega)
      | exact finK_ret (fin_agf (cs := encG5 m) (len := m.levels.length) rfl rfl (by simp [wed_len]) rfl)
      | trace_state
end Go.Pv.Soil

open Go Go.Proofs Go.Pv
set_option maxHeartbeats 8000000
set_option maxRecDepth 100000
set_option linter.unusedSimpArgs false
set_option linter.unusedVariables false
namespace Go.Pv.Soil
theorem cBlank_bad (m : Grid) (hl : m.levels.length < 1000000000000) (h : gridE m ≠ 0) : Contract Tryz.prog 36 [.agg (encGrid m)] (.ret (.tup [.agg (encG5 zeroG ++ [.fr 1 []]), .int .i64 (gridE m)])) := by
  have h1 := c144 m hl
  generalize gridE m = e at *
  refine contract_of mix Tryz.func36 rfl rfl (by rw [Tryz.ntmps36]; exact Nat.le_of_ble_eq_true rfl) ?_; rw [Tryz.results36, Tryz.ntmps36]; simp only [argsE, Nat.reduceAdd]
  repeat' first
           | (with_reducible apply go_op)
           | (with_reducible apply go_next)
           | ((with_reducible (show evOp _ _ _ _ _ _)); first
             | (((with_reducible apply go_mv_int); rfl; rfl))
             | ((with_reducible apply go_as))
             | (((with_reducible apply go_ld_agg); rfl; rfl; rfl; rfl))
             | (((with_reducible apply go_cmp); rfl; rfl; rfl; rfl))
             | (((with_reducible apply go_fn_int); rfl; (exact h1); rfl))
             | (((with_reducible apply go_st_agg); rfl; rfl; rfl; rfl; rfl; rfl; rfl))
             | (((with_reducible apply go_build); rfl; rfl))
             | (((with_reducible apply go_bx_agg); rfl; rfl; (exact Nat.le_of_ble_eq_true rfl); rfl; rfl))
             | (((with_reducible apply go_alloc); rfl; rfl; rfl)))
           | ((with_reducible (show evOps _ _ _ _ _ _)); first
             | (with_reducible apply go_nil))
           | ((with_reducible (show evG _ _ _ _ _)); first
             | (with_reducible apply go_seq)
             | (with_reducible apply go_region)
             | (((with_reducible apply go_cond); rfl) <;> (intro h; simp only [h]; try simp only [decide_eq_true_eq, decide_eq_false_iff_not, Bool.not_eq_true', Bool.not_eq_false', Bool.not_true, Bool.not_false] at h; try exact absurd trivial h))
             | (with_reducible apply go_ret)
             | (with_reducible apply go_skipc))
           | (with_reducible apply go_kseq)
           | (with_reducible apply go_kseq_ret)
  all_goals first
    | (exfalso; omega)
    | exact finK_ret (fin_agn2 (cs := encG5 zeroG) rfl rfl rfl rfl)
    | trace_state
/-- The error of a quay and a grid. -/
def wedX (q : Quay) (m : Grid) : Int := if quayE q ≠ 0 then quayE q else gridE m
theorem cWedge_bad (q : Quay) (m : Grid) (hl : m.levels.length < 1000000000000) (h : wedX q m ≠ 0) : Contract Tryz.prog 8 [.agg (encQuay q), .agg (encGrid m)] (.ret (.tup [.agg (encG5 zeroG ++ [.fr 1 []]), .int .i64 (wedX q m)])) := by
  have h1 := c168 q
  by_cases hq : quayE q = 0
  · have e : wedX q m = gridE m := if_neg (by omega)
    rw [e] at h ⊢
    rw [hq] at h1
    have h2 : Contract Tryz.prog 36 [.agg (encGrid m)] (.ret (.tup [.agg (encG5 zeroG ++ [.fr 1 (([] : List Int).map encInt)]), .int .i64 (gridE m)])) := cBlank_bad m hl h
    generalize gridE m = e at *
    have hF : ScalF encInt 1 := fun _ => ⟨rfl, rfl⟩
    refine contract_of mix Tryz.func8 rfl rfl (by rw [Tryz.ntmps8]; exact Nat.le_of_ble_eq_true rfl) ?_; rw [Tryz.results8, Tryz.ntmps8]; simp only [argsE, Nat.reduceAdd]
    repeat' first
           | (with_reducible apply go_op)
           | (with_reducible apply go_next)
           | ((with_reducible (show evOp _ _ _ _ _ _)); first
             | (((with_reducible apply go_mv_int); rfl; rfl))
             | ((with_reducible apply go_as))
             | (((with_reducible apply go_ld_agg); rfl; rfl; rfl; rfl))
             | (((with_reducible apply go_cmp); rfl; rfl; rfl; rfl))
             | (((with_reducible apply go_fn_int); rfl; (exact h1); rfl))
             | (((with_reducible apply go_bx_agg); rfl; rfl; (exact Nat.le_of_ble_eq_true rfl); rfl; rfl))
             | (((with_reducible apply go_alloc); rfl; rfl; rfl)))
           | ((with_reducible (show evOps _ _ _ _ _ _)); first
             | (with_reducible apply go_nil))
           | ((with_reducible (show evG _ _ _ _ _)); first
             | (with_reducible apply go_seq)
             | (with_reducible apply go_region)
             | ((with_reducible apply go_cond_f); rfl; rfl)
             | (with_reducible apply go_skipc))
           | (with_reducible apply go_kseq)
    all_goals try (exfalso; omega)
    refine go_fn_agf2 (f := encInt) (l := []) (cs := encG5 zeroG) (q := 5) (args' := [.agg (encGrid m)]) rfl h2 hF rfl rfl rfl rfl rfl rfl ?_
    repeat' first
           | (with_reducible apply go_op)
           | (with_reducible apply go_next)
           | ((with_reducible (show evOp _ _ _ _ _ _)); first
             | ((with_reducible (show evOp _ (.move _) _ _ _ _)) ; first | ((with_reducible apply go_mv_int); rfl; rfl) | ((with_reducible apply go_mv_tup); rfl; rfl))
             | ((with_reducible apply go_as))
             | (((with_reducible apply go_load_own); rfl; rfl; rfl; rfl))
             | (((with_reducible apply go_fieldAddr_own); rfl; rfl; rfl))
             | (((with_reducible apply go_cmp); rfl; rfl; rfl; rfl))
             | (((with_reducible apply go_len_own); rfl; rfl; rfl))
             | (((with_reducible apply go_st_agg); rfl; rfl; rfl; rfl; rfl; rfl; rfl))
             | (((with_reducible apply go_extract); rfl; rfl))
             | (((with_reducible apply go_build); rfl; rfl))
             | (((with_reducible apply go_alloc); rfl; rfl; rfl)))
           | ((with_reducible (show evOps _ _ _ _ _ _)); first
             | (with_reducible apply go_nil))
           | ((with_reducible (show evG _ _ _ _ _)); first
             | (with_reducible apply go_seq)
             | (with_reducible apply go_region)
             | (((with_reducible apply go_cond); rfl) <;> (intro h; simp only [h]; try simp only [decide_eq_true_eq, decide_eq_false_iff_not, Bool.not_eq_true', Bool.not_eq_false', Bool.not_true, Bool.not_false] at h; try exact absurd trivial h))
             | (with_reducible apply go_ret)
             | (with_reducible apply go_skipc)
             | (with_reducible apply go_block))
           | (with_reducible apply go_kseq)
           | (with_reducible apply go_kseq_ret)
    all_goals first
      | (exfalso; omega)
      | exact finK_ret (fin_agn2 (cs := encG5 zeroG) rfl rfl rfl rfl)
      | trace_state
  · have e : wedX q m = quayE q := if_pos hq
    rw [e] at h ⊢
    generalize quayE q = e at *
    refine contract_of mix Tryz.func8 rfl rfl (by rw [Tryz.ntmps8]; exact Nat.le_of_ble_eq_true rfl) ?_; rw [Tryz.results8, Tryz.ntmps8]; simp only [argsE, Nat.reduceAdd]
    repeat' first
           | (with_reducible apply go_op)
           | (with_reducible apply go_next)
           | ((with_reducible (show evOp _ _ _ _ _ _)); first
             | (((with_reducible apply go_mv_int); rfl; rfl))
             | ((with_reducible apply go_as))
             | (((with_reducible apply go_ld_agg); rfl; rfl; rfl; rfl))
             | (((with_reducible apply go_cmp); rfl; rfl; rfl; rfl))
             | (((with_reducible apply go_fn_int); rfl; (exact h1); rfl))
             | (((with_reducible apply go_st_agg); rfl; rfl; rfl; rfl; rfl; rfl; rfl))
             | (((with_reducible apply go_build); rfl; rfl))
             | (((with_reducible apply go_bx_agg); rfl; rfl; (exact Nat.le_of_ble_eq_true rfl); rfl; rfl))
             | (((with_reducible apply go_alloc); rfl; rfl; rfl)))
           | ((with_reducible (show evOps _ _ _ _ _ _)); first
             | (with_reducible apply go_nil))
           | ((with_reducible (show evG _ _ _ _ _)); first
             | (with_reducible apply go_seq)
             | (with_reducible apply go_region)
             | (((with_reducible apply go_cond); rfl) <;> (intro h; simp only [h]; try simp only [decide_eq_true_eq, decide_eq_false_iff_not, Bool.not_eq_true', Bool.not_eq_false', Bool.not_true, Bool.not_false] at h; try exact absurd trivial h))
             | (with_reducible apply go_ret)
             | (with_reducible apply go_skipc))
           | (with_reducible apply go_kseq)
           | (with_reducible apply go_kseq_ret)
    all_goals first
      | (exfalso; omega)
      | exact finK_ret (fin_agn2 (cs := encG5 zeroG) rfl rfl rfl rfl)
      | trace_state
theorem cUnd_bad (q : Quay) (m : Grid) (hl : m.levels.length < 1000000000000) (h : wedX q m ≠ 0) : Contract Tryz.prog 9 [.agg (encQuay q), .agg (encGrid m)] (.ret (.tup [.fr 1 [], .int .i64 (wedX q m)])) := by
  have h2 : Contract Tryz.prog 8 [.agg (encQuay q), .agg (encGrid m)] (.ret (.tup [.agg (encG5 zeroG ++ [.fr 1 (([] : List Int).map encInt)]), .int .i64 (wedX q m)])) := cWedge_bad q m hl h
  generalize wedX q m = e at *
  have hF : ScalF encInt 1 := fun _ => ⟨rfl, rfl⟩
  refine contract_of mix Tryz.func9 rfl rfl (by rw [Tryz.ntmps9]; exact Nat.le_of_ble_eq_true rfl) ?_; rw [Tryz.results9, Tryz.ntmps9]; simp only [argsE, Nat.reduceAdd]
  repeat' first
           | (with_reducible apply go_op)
           | (with_reducible apply go_next)
           | ((with_reducible (show evOp _ _ _ _ _ _)); first
             | ((with_reducible (show evOp _ (.move _) _ _ _ _)) ; first | ((with_reducible apply go_mv_int); rfl; rfl) | ((with_reducible apply go_mv_nilsl); rfl; rfl))
             | ((with_reducible apply go_as))
             | (((with_reducible apply go_ld_agg); rfl; rfl; rfl; rfl))
             | (((with_reducible apply go_bx_agg); rfl; rfl; (exact Nat.le_of_ble_eq_true rfl); rfl; rfl)))
           | ((with_reducible (show evOps _ _ _ _ _ _)); first
             | (with_reducible apply go_nil))
           | ((with_reducible (show evG _ _ _ _ _)); first
             | (with_reducible apply go_seq)
             | (with_reducible apply go_region))
           | (with_reducible apply go_kseq)
  refine go_fn_agf2 (f := encInt) (l := []) (cs := encG5 zeroG) (q := 5) (args' := [.agg (encQuay q), .agg (encGrid m)]) rfl h2 hF rfl rfl rfl rfl rfl rfl ?_
  repeat' first
           | (with_reducible apply go_op)
           | (with_reducible apply go_next)
           | ((with_reducible (show evOp _ _ _ _ _ _)); first
             | ((with_reducible (show evOp _ (.move _) _ _ _ _)) ; first | ((with_reducible apply go_mv_int); rfl; rfl) | ((with_reducible apply go_mv_nilsl); rfl; rfl) | ((with_reducible apply go_mv_tup); rfl; rfl))
             | ((with_reducible apply go_as))
             | (((with_reducible apply go_load_own); rfl; rfl; rfl; rfl))
             | (((with_reducible apply go_fieldAddr_own); rfl; rfl; rfl))
             | (((with_reducible apply go_cmp); rfl; rfl; rfl; rfl))
             | (((with_reducible apply go_len_own); rfl; rfl; rfl))
             | (((with_reducible apply go_st_agg); rfl; rfl; rfl; rfl; rfl; rfl; rfl))
             | (((with_reducible apply go_extract); rfl; rfl))
             | (((with_reducible apply go_alloc); rfl; rfl; rfl)))
           | ((with_reducible (show evOps _ _ _ _ _ _)); first
             | (with_reducible apply go_nil))
           | ((with_reducible (show evG _ _ _ _ _)); first
             | (with_reducible apply go_seq)
             | (with_reducible apply go_region)
             | (((with_reducible apply go_cond); rfl) <;> (intro h; simp only [h]; try simp only [decide_eq_true_eq, decide_eq_false_iff_not, Bool.not_eq_true', Bool.not_eq_false', Bool.not_true, Bool.not_false] at h; try exact absurd trivial h))
             | (with_reducible apply go_ret)
             | (with_reducible apply go_skipc)
             | (with_reducible apply go_block))
           | (with_reducible apply go_kseq)
           | (with_reducible apply go_kseq_ret)
  all_goals first
    | (exfalso; omega)
    | exact finK_ret (fin_nil2 rfl rfl rfl)
    | trace_state
/-- The reference's list of cells. -/
theorem cUnd_ref (q : Quay) (hq : quayE q = 0) (m : Grid) (hm : OkGrid m) (h0 : gridE m = 0) (hl : m.levels.length ≤ 1000000000) : Contract Tryz.prog 18 [.agg (encQuay q), .agg (encGrid m)] (.ret (.fr 1 ((undL q m m.levels.length).map encInt))) := by
  have h1 := cWedge q hq m hm h0 hl
  have hF : ScalF encInt 1 := fun _ => ⟨rfl, rfl⟩
  refine contract_of mix Tryz.func18 rfl rfl (by rw [Tryz.ntmps18]; exact Nat.le_of_ble_eq_true rfl) ?_; rw [Tryz.results18, Tryz.ntmps18]; simp only [argsE, Nat.reduceAdd]
  repeat' first
           | (with_reducible apply go_op)
           | (with_reducible apply go_next)
           | ((with_reducible (show evOp _ _ _ _ _ _)); first
             | ((with_reducible (show evOp _ (.move _) _ _ _ _)) ; first | ((with_reducible apply go_mv_int); rfl; rfl) | ((with_reducible apply go_mv_nilsl); rfl; rfl))
             | ((with_reducible apply go_as))
             | (((with_reducible apply go_ld_agg); rfl; rfl; rfl; rfl))
             | (((with_reducible apply (go_fn_agf (cs := encG5 m))); rfl; (exact h1); (exact hF); rfl; rfl; rfl; rfl; rfl))
             | (((with_reducible apply go_st_agg); rfl; rfl; rfl; rfl; rfl; rfl; rfl))
             | (((with_reducible apply go_bx_agg); rfl; rfl; (exact Nat.le_of_ble_eq_true rfl); rfl; rfl))
             | (((with_reducible apply go_alloc); rfl; rfl; rfl)))
           | ((with_reducible (show evOps _ _ _ _ _ _)); first
             | (with_reducible apply go_nil))
           | ((with_reducible (show evG _ _ _ _ _)); first
             | (with_reducible apply go_seq)
             | (with_reducible apply go_region)
             | (with_reducible apply go_block))
           | (with_reducible apply go_kseq)
  simp only [wed_len]
  have hwl : (wedL q m m.levels.length m.levels.length).length = m.levels.length := wed_len
  have hwg := fun i h => wed_get (q := q) (m := m) (n := m.levels.length) (i := i) h
  clear h1
  generalize wedL q m m.levels.length m.levels.length = W at *
  refine go_count m.levels.length (fun i => ⟨[(6, .os 4 0 (undL q m i).length), (7, .int .i64 i), (5, .op 2 0 0), (3, .op 1 0 0), (2, .op 0 0 0)], [(4, ⟨1, true, (undL q m i).map encInt⟩), (0, ⟨7, true, [encQuay q]⟩), (1, ⟨6, true, [encGrid m]⟩), (2, ⟨6, false, [encG5 m ++ [.os 3 0 m.levels.length]]⟩), (3, ⟨1, true, W.map encInt⟩)], 32, 44⟩) (fun i => True)
    (entails_eq (nx := 32) (k := 1) (ns := [(6, 4)]) (ks := [7, 5, 3, 2]) [(0, 0), (32, 1), (192, 2), (165, 3)] rfl (by intro p hp; obtain rfl : p = (6, 4) := (by simpa using hp); kernel_rfl) (by kernel_rfl)) trivial ?_
  intro i hi _
  by_cases hlt : i < m.levels.length
  · have hle := und_len q m i
    have hiW : i < W.length := by omega
    have y1 : Contract Tryz.prog 51 [.agg (encGrid m), .int .i64 i] (.ret (.bool (!decide (m.levels[i] = 30000)))) := c41 m (by omega) i hlt
    have y2 : Contract Tryz.prog 51 [.agg (encG5 m ++ [.sl (W.map encInt)]), .int .i64 i] (.ret (.bool (!decide (W[i] = 30000)))) := c41 ⟨m.x, m.y, m.side, m.cols, m.rows, W⟩ (by show W.length < _; omega) i hiW
    have hb : undB q m i = (decide (wedV q m i ≠ 30000) && (decide (m.levels[i] ≠ 30000) && decide (m.levels[i] < wedV q m i))) := by
      unfold undB; rw [List.getD_eq_getElem?_getD, List.getElem?_eq_getElem hlt]; rfl
    have hw := hwg i (by omega)
    repeat' first
           | (with_reducible apply go_op)
           | (with_reducible apply go_next)
           | ((with_reducible (show evOp _ _ _ _ _ _)); first
             | ((with_reducible (show evOp _ (.move _) _ _ _ _)) ; first | ((with_reducible apply go_mv_int); rfl; rfl) | ((with_reducible apply go_mv_bool); rfl; rfl) | ((with_reducible apply go_mv_os); rfl; rfl))
             | ((with_reducible apply go_as))
             | ((with_reducible (show evOp _ (.load _ _) _ _ _ _)) ; first | ((with_reducible apply go_load_om); rfl; rfl; rfl; rfl; rotate_left; assumption) | ((with_reducible apply go_ld_agg); rfl; rfl; rfl; rfl) | ((with_reducible apply go_load); rfl; rfl; rfl) | ((with_reducible apply go_load_own); rfl; rfl; rfl; rfl))
             | (((with_reducible apply go_fieldAddr_own); rfl; rfl; rfl))
             | ((with_reducible (show evOp _ (.indexAddr _ _ _) _ _ _ _)) ; first | ((with_reducible apply go_index_nat); rfl; rfl; (with_reducible rfl); (intro; rfl); rfl; omega; (intro hlt)) | ((with_reducible apply go_index_om); rfl; rfl; rfl; (with_reducible rfl); rfl; rfl; omega; (intro hlt)))
             | ((with_reducible (show evOp _ (.binOp _ _ _ _ _) _ _ _ _)) ; first | ((with_reducible apply go_cmp); rfl; rfl; rfl; rfl) | ((with_reducible apply go_add); rfl; rfl; rfl; omega))
             | ((with_reducible (show evOp _ (.call _) _ _ _ _)) ; first | ((with_reducible apply go_len); rfl; rfl) | ((with_reducible apply go_fn_bool); rfl; (exact y1); rfl) | ((with_reducible apply go_fn_bool); (exact purL_agf (cs := encG5 m) rfl (by simp; try assumption) rfl rfl rfl); (exact y2); rfl))
             | (((with_reducible apply go_pick); rfl; rfl; rfl))
             | (((with_reducible apply go_bs1_int); rfl; rfl; rfl)))
           | ((with_reducible (show evOps _ _ _ _ _ _)); first
             | (with_reducible apply go_nil)
             | ((with_reducible apply go_run); rfl; rfl)
             | ((with_reducible apply go_pass); rfl; rfl; rfl)
             | (((with_reducible apply go_guard); rfl) <;> (intro h; simp only [h, Bool.not_true, Bool.not_false]; (try with_reducible (refine ⟨rfl, ?_⟩)); try simp only [decide_eq_true_eq, decide_eq_false_iff_not, Bool.not_eq_true', Bool.not_eq_false', Bool.not_true, Bool.not_false] at h; try exact absurd trivial h))
             | ((with_reducible apply go_pre); rfl)
             | (with_reducible apply go_pre_nil)
             | ((with_reducible apply go_suf); rfl)
             | (with_reducible apply go_suf_nil))
           | ((with_reducible (show evG _ _ _ _ _)); first
             | (with_reducible apply go_seq)
             | (with_reducible apply go_region)
             | ((with_reducible apply go_cond_f); rfl; rfl)
             | (((with_reducible apply go_cond); rfl) <;> (intro h; simp only [h]; try simp only [decide_eq_true_eq, decide_eq_false_iff_not, Bool.not_eq_true', Bool.not_eq_false', Bool.not_true, Bool.not_false] at h; try exact absurd trivial h))
             | ((with_reducible apply go_order); kernel_rfl; rfl)
             | (with_reducible apply go_ret)
             | (with_reducible apply go_skipc)
             | (with_reducible apply go_block)
             | (with_reducible apply go_exit))
           | (with_reducible apply go_kseq)
           | (with_reducible apply go_ksuf)
           | (with_reducible apply go_kblock)
           | (with_reducible apply go_kblock_exit)
           | (with_reducible apply go_kseq_exit)
    all_goals try (exfalso; omega)
    all_goals try
      (refine go_app_map (f := encInt) (a := (i : Int)) (l := undL q m i) hF rfl rfl rfl rfl rfl rfl (by kernel_rfl) (by kernel_rfl) (by omega) rfl ?_
       repeat' first
           | (with_reducible apply go_op)
           | (with_reducible apply go_next)
           | ((with_reducible (show evOp _ _ _ _ _ _)); first
             | ((with_reducible (show evOp _ (.move _) _ _ _ _)) ; first | ((with_reducible apply go_mv_int); rfl; rfl) | ((with_reducible apply go_mv_os); rfl; rfl))
             | ((with_reducible apply go_as))
             | (((with_reducible apply go_add); rfl; rfl; rfl; omega)))
           | ((with_reducible (show evOps _ _ _ _ _ _)); first
             | (with_reducible apply go_nil))
           | ((with_reducible (show evG _ _ _ _ _)); first
             | (with_reducible apply go_region))
           | (with_reducible apply go_kseq)
           | (with_reducible apply go_kblock))
    all_goals first
      | (have hsel : undB q m i = true := by
           rw [hb, ← hw]; simp only [Bool.and_eq_true, decide_eq_true_eq, ne_eq]; omega
         have e := und_yes hsel
         have el : (undL q m i).length + 1 = (undL q m (i + 1)).length := by rw [← e]; simp
         refine ⟨by omega, trivial, ?_⟩
         rw [show ((i : Nat) : Int) = (i : Int) from rfl, e, el]
         exact entails_eq (nx := 32) (k := 1) (ns := []) (ks := [6, 7, 5, 3, 2]) [(4, 4), (0, 0), (1, 1), (2, 2), (3, 3)] rfl (by simp) (by kernel_rfl))
      | (have hsel : undB q m i = false := by
           rw [hb, ← hw]; simp only [Bool.and_eq_false_iff, decide_eq_false_iff_not, ne_eq]; omega
         refine ⟨by omega, trivial, ?_⟩
         rw [← und_no hsel]
         exact entails_eq (nx := 32) (k := 1) (ns := []) (ks := [6, 7, 5, 3, 2]) [(4, 4), (0, 0), (1, 1), (2, 2), (3, 3)] rfl (by simp) (by kernel_rfl))
      | trace_state
  · have e : i = m.levels.length := by omega
    subst e
    repeat' first
           | (with_reducible apply go_op)
           | (with_reducible apply go_next)
           | ((with_reducible (show evOp _ _ _ _ _ _)); first
             | ((with_reducible (show evOp _ (.move _) _ _ _ _)) ; first | ((with_reducible apply go_mv_int); rfl; rfl) | ((with_reducible apply go_mv_os); rfl; rfl))
             | ((with_reducible apply go_as))
             | ((with_reducible (show evOp _ (.load _ _) _ _ _ _)) ; first | ((with_reducible apply go_ld_agg); rfl; rfl; rfl; rfl) | ((with_reducible apply go_load_own); rfl; rfl; rfl; rfl))
             | (((with_reducible apply go_fieldAddr_own); rfl; rfl; rfl))
             | (((with_reducible apply go_cmp); rfl; rfl; rfl; rfl))
             | (((with_reducible apply go_len); rfl; rfl)))
           | ((with_reducible (show evOps _ _ _ _ _ _)); first
             | (with_reducible apply go_nil)
             | ((with_reducible apply go_pre); rfl))
           | ((with_reducible (show evG _ _ _ _ _)); first
             | (with_reducible apply go_seq)
             | (with_reducible apply go_region)
             | (((with_reducible apply go_cond); rfl) <;> (intro h; simp only [h]; try simp only [decide_eq_true_eq, decide_eq_false_iff_not, Bool.not_eq_true', Bool.not_eq_false', Bool.not_true, Bool.not_false] at h; try exact absurd trivial h))
             | ((with_reducible apply go_order); kernel_rfl; rfl)
             | (with_reducible apply go_ret)
             | (with_reducible apply go_skipc)
             | (with_reducible apply go_block)
             | (with_reducible apply go_exit))
           | (with_reducible apply go_kseq)
           | (with_reducible apply go_kblock_exit)
           | (with_reducible apply go_kseq_exit)
    all_goals first
      | (exfalso; omega)
      | exact end_frn rfl rfl (by simp) rfl
      | trace_state
end Go.Pv.Soil

open Go Go.Proofs Go.Pv
set_option maxHeartbeats 8000000
set_option maxRecDepth 100000
set_option linter.unusedSimpArgs false
set_option linter.unusedVariables false
namespace Go.Pv.Soil
theorem cQuays_bad (q : Quay) (m : Grid) (hlm : m.levels.length ≤ 9223372036854775807) (h : ¬ (m.levels.length ≤ 30 ∧ q.name.size ≤ 50 ∧ wedX q m = 0)) : Contract Tryz.prog 3 [.agg (encQuay q), .agg (encGrid m)] (.ret (.bool true)) := by
  have h24 := c24 m
  by_cases q1 : m.levels.length ≤ 30
  rotate_left
  · rw [decide_eq_false q1] at h24
    refine contract_of mix Tryz.func3 rfl rfl (by rw [Tryz.ntmps3]; exact Nat.le_of_ble_eq_true rfl) ?_; rw [Tryz.results3, Tryz.ntmps3]; simp only [argsE, Nat.reduceAdd]
    repeat' first
           | (with_reducible apply go_op)
           | (with_reducible apply go_next)
           | ((with_reducible (show evOp _ _ _ _ _ _)); first
             | (((with_reducible apply go_mv_bool); rfl; rfl))
             | ((with_reducible apply go_as))
             | ((with_reducible (show evOp _ (.load _ _) _ _ _ _)) ; first | ((with_reducible apply go_ld_agg); rfl; rfl; rfl; rfl) | ((with_reducible apply go_load_own); rfl; rfl; rfl; rfl))
             | (((with_reducible apply go_fieldAddr_own); rfl; rfl; rfl))
             | (((with_reducible apply go_cmp); rfl; rfl; rfl; rfl))
             | ((with_reducible (show evOp _ (.call _) _ _ _ _)) ; first | ((with_reducible apply go_len_str); rfl; rfl) | ((with_reducible apply go_fn_bool); rfl; (exact c18); rfl) | ((with_reducible apply go_fn_bool); rfl; (exact h24); rfl))
             | (((with_reducible apply go_not); rfl; rfl))
             | (((with_reducible apply go_pick); rfl; rfl; rfl))
             | (((with_reducible apply go_bx_agg); rfl; rfl; (exact Nat.le_of_ble_eq_true rfl); rfl; rfl)))
           | ((with_reducible (show evOps _ _ _ _ _ _)); first
             | (with_reducible apply go_nil)
             | ((with_reducible apply go_run); rfl; rfl)
             | ((with_reducible apply go_pass); rfl; rfl; rfl)
             | (((with_reducible apply go_guard); rfl) <;> (intro h; simp only [h, Bool.not_true, Bool.not_false]; (try with_reducible (refine ⟨rfl, ?_⟩)); try simp only [decide_eq_true_eq, decide_eq_false_iff_not, Bool.not_eq_true', Bool.not_eq_false', Bool.not_true, Bool.not_false] at h; try exact absurd trivial h)))
           | ((with_reducible (show evG _ _ _ _ _)); first
             | (with_reducible apply go_seq)
             | (with_reducible apply go_region)
             | ((with_reducible apply go_cond_t); rfl; rfl)
             | ((with_reducible apply go_cond_f); rfl; rfl)
             | (with_reducible apply go_ret)
             | (with_reducible apply go_skipc))
           | (with_reducible apply go_kseq)
           | (with_reducible apply go_kseq_ret)
           | ((with_reducible apply end_bool); rfl)
           | (with_reducible rfl)
  rw [decide_eq_true q1] at h24
  by_cases q2 : q.name.size ≤ 50
  rotate_left
  · refine contract_of mix Tryz.func3 rfl rfl (by rw [Tryz.ntmps3]; exact Nat.le_of_ble_eq_true rfl) ?_; rw [Tryz.results3, Tryz.ntmps3]; simp only [argsE, Nat.reduceAdd]
    repeat' first
           | (with_reducible apply go_op)
           | (with_reducible apply go_next)
           | ((with_reducible (show evOp _ _ _ _ _ _)); first
             | (((with_reducible apply go_mv_bool); rfl; rfl))
             | ((with_reducible apply go_as))
             | ((with_reducible (show evOp _ (.load _ _) _ _ _ _)) ; first | ((with_reducible apply go_ld_agg); rfl; rfl; rfl; rfl) | ((with_reducible apply go_load_own); rfl; rfl; rfl; rfl))
             | (((with_reducible apply go_fieldAddr_own); rfl; rfl; rfl))
             | (((with_reducible apply go_cmp); rfl; rfl; rfl; rfl))
             | ((with_reducible (show evOp _ (.call _) _ _ _ _)) ; first | ((with_reducible apply go_len_str); rfl; rfl) | ((with_reducible apply go_fn_bool); rfl; (exact c18); rfl) | ((with_reducible apply go_fn_bool); rfl; (exact h24); rfl))
             | (((with_reducible apply go_not); rfl; rfl))
             | (((with_reducible apply go_pick); rfl; rfl; rfl))
             | (((with_reducible apply go_bx_agg); rfl; rfl; (exact Nat.le_of_ble_eq_true rfl); rfl; rfl)))
           | ((with_reducible (show evOps _ _ _ _ _ _)); first
             | (with_reducible apply go_nil)
             | ((with_reducible apply go_run); rfl; rfl)
             | ((with_reducible apply go_pass); rfl; rfl; rfl)
             | (((with_reducible apply go_guard); rfl) <;> (intro h; simp only [h, Bool.not_true, Bool.not_false]; (try with_reducible (refine ⟨rfl, ?_⟩)); try simp only [decide_eq_true_eq, decide_eq_false_iff_not, Bool.not_eq_true', Bool.not_eq_false', Bool.not_true, Bool.not_false] at h; try exact absurd trivial h)))
           | ((with_reducible (show evG _ _ _ _ _)); first
             | (with_reducible apply go_seq)
             | (with_reducible apply go_region)
             | ((with_reducible apply go_cond_t); rfl; rfl)
             | ((with_reducible apply go_cond_f); rfl; rfl)
             | (with_reducible apply go_ret)
             | (with_reducible apply go_skipc))
           | (with_reducible apply go_kseq)
           | (with_reducible apply go_kseq_ret)
           | ((with_reducible apply end_bool); rfl)
           | (with_reducible rfl)
    all_goals (exfalso; omega)
  have hx : wedX q m ≠ 0 := fun e => h ⟨q1, q2, e⟩
  have y1 := cWedge_bad q m (by omega) hx
  have y2 := cUnd_bad q m (by omega) hx
  have h71 := c71 q
  have h168 := c168 q
  have h28 := c28 m (by omega)
  have h29 : Contract Tryz.prog 14 [.agg (encG5 zeroG ++ [.sl (([] : List Int).map encInt)])] (.ret (.bool true)) := by
    have := c29 zeroG (by decide)
    have e : sameE zeroG zeroG = true := by decide
    rw [e] at this
    exact this
  have h27 := c27 [quayE q, gridE m] (by simp)
  have hf : firstOf [quayE q, gridE m] = wedX q m := by
    unfold wedX; by_cases hq : quayE q = 0 <;> by_cases hg : gridE m = 0 <;> simp [firstOf, hq, hg]
  rw [hf] at h27
  have hF : ScalF encInt 1 := fun _ => ⟨rfl, rfl⟩
  have y1' : Contract Tryz.prog 8 [.agg (encQuay q), .agg (encGrid m)] (.ret (.tup [.agg (encG5 zeroG ++ [.fr 1 (([] : List Int).map encInt)]), .int .i64 (wedX q m)])) := y1
  generalize wedX q m = e at *
  refine contract_of mix Tryz.func3 rfl rfl (by rw [Tryz.ntmps3]; exact Nat.le_of_ble_eq_true rfl) ?_; rw [Tryz.results3, Tryz.ntmps3]; simp only [argsE, Nat.reduceAdd]
  repeat' first
           | (with_reducible apply go_op)
           | (with_reducible apply go_next)
           | ((with_reducible (show evOp _ _ _ _ _ _)); first
             | (((with_reducible apply go_mv_bool); rfl; rfl))
             | ((with_reducible apply go_as))
             | ((with_reducible (show evOp _ (.load _ _) _ _ _ _)) ; first | ((with_reducible apply go_ld_agg); rfl; rfl; rfl; rfl) | ((with_reducible apply go_load_own); rfl; rfl; rfl; rfl))
             | (((with_reducible apply go_fieldAddr_own); rfl; rfl; rfl))
             | (((with_reducible apply go_cmp); rfl; rfl; rfl; rfl))
             | ((with_reducible (show evOp _ (.call _) _ _ _ _)) ; first | ((with_reducible apply go_len_str); rfl; rfl) | ((with_reducible apply go_fn_bool); rfl; (exact c18); rfl) | ((with_reducible apply go_fn_bool); rfl; (exact h24); rfl))
             | (((with_reducible apply go_not); rfl; rfl))
             | (((with_reducible apply go_pick); rfl; rfl; rfl))
             | (((with_reducible apply go_bx_agg); rfl; rfl; (exact Nat.le_of_ble_eq_true rfl); rfl; rfl)))
           | ((with_reducible (show evOps _ _ _ _ _ _)); first
             | (with_reducible apply go_nil)
             | ((with_reducible apply go_run); rfl; rfl)
             | ((with_reducible apply go_pass); rfl; rfl; rfl)
             | (((with_reducible apply go_guard); rfl) <;> (intro h; simp only [h, Bool.not_true, Bool.not_false]; (try with_reducible (refine ⟨rfl, ?_⟩)); try simp only [decide_eq_true_eq, decide_eq_false_iff_not, Bool.not_eq_true', Bool.not_eq_false', Bool.not_true, Bool.not_false] at h; try exact absurd trivial h)))
           | ((with_reducible (show evG _ _ _ _ _)); first
             | (with_reducible apply go_seq)
             | (with_reducible apply go_region)
             | ((with_reducible apply go_cond_t); rfl; rfl)
             | ((with_reducible apply go_cond_f); rfl; rfl)
             | (with_reducible apply go_ret)
             | (with_reducible apply go_skipc))
           | (with_reducible apply go_kseq)
           | (with_reducible apply go_kseq_ret)
           | ((with_reducible apply end_bool); rfl)
           | (with_reducible rfl)
  all_goals try (exfalso; omega)
  refine go_fn_agf2 (f := encInt) (l := []) (cs := encG5 zeroG) (q := 5) (args' := [.agg (encQuay q), .agg (encGrid m)]) rfl y1' hF rfl rfl rfl rfl rfl rfl ?_
  have y2' : Contract Tryz.prog 9 [.agg (encQuay q), .agg (encGrid m)] (.ret (.tup [.fr 1 (([] : List Int).map encInt), .int .i64 e])) := y2
  repeat' first
           | (with_reducible apply go_op)
           | (with_reducible apply go_next)
           | ((with_reducible (show evOp _ _ _ _ _ _)); first
             | ((with_reducible (show evOp _ (.move _) _ _ _ _)) ; first | ((with_reducible apply go_mv_int); rfl; rfl) | ((with_reducible apply go_mv_bool); rfl; rfl) | ((with_reducible apply go_mv_os); rfl; rfl) | ((with_reducible apply go_mv_tup); rfl; rfl))
             | ((with_reducible apply go_as))
             | (((with_reducible apply go_ld_agg); rfl; rfl; rfl; rfl))
             | (((with_reducible apply go_cmp); rfl; rfl; rfl; rfl))
             | ((with_reducible (show evOp _ (.call _) _ _ _ _)) ; first | ((with_reducible apply go_len_own); rfl; rfl; rfl) | ((with_reducible apply go_fn_fr2); rfl; (exact y2'); (exact hF); rfl; rfl) | ((with_reducible apply go_fn_int); rfl; (exact h168); rfl) | ((with_reducible apply go_fn_int); rfl; (exact h71); rfl) | ((with_reducible apply go_fn_int); rfl; (exact h28); rfl) | ((with_reducible apply go_fn_int); rfl; (exact h27); rfl) | ((with_reducible apply go_fn_bool); (exact purL_agf (cs := encG5 zeroG) rfl (by simp; try assumption) rfl rfl rfl); (exact h29); rfl))
             | (((with_reducible apply go_st_agg); rfl; rfl; rfl; rfl; rfl; rfl; rfl))
             | (((with_reducible apply go_extract); rfl; rfl))
             | (((with_reducible apply go_pick); rfl; rfl; rfl))
             | (((with_reducible apply go_alloc); rfl; rfl; rfl))
             | (((with_reducible apply go_bs2_int); rfl; rfl; rfl; rfl)))
           | ((with_reducible (show evOps _ _ _ _ _ _)); first
             | (with_reducible apply go_nil)
             | ((with_reducible apply go_run); rfl; rfl)
             | ((with_reducible apply go_pass); rfl; rfl; rfl)
             | (((with_reducible apply go_guard); rfl) <;> (intro h; simp only [h, Bool.not_true, Bool.not_false]; (try with_reducible (refine ⟨rfl, ?_⟩)); try simp only [decide_eq_true_eq, decide_eq_false_iff_not, Bool.not_eq_true', Bool.not_eq_false', Bool.not_true, Bool.not_false] at h; try exact absurd trivial h))
             | ((with_reducible apply go_pre); rfl)
             | (with_reducible apply go_pre_nil)
             | ((with_reducible apply go_suf); rfl)
             | (with_reducible apply go_suf_nil))
           | ((with_reducible (show evG _ _ _ _ _)); first
             | (with_reducible apply go_seq)
             | (with_reducible apply go_region)
             | (((with_reducible apply go_cond); rfl) <;> (intro h; simp only [h]; try simp only [decide_eq_true_eq, decide_eq_false_iff_not, Bool.not_eq_true', Bool.not_eq_false', Bool.not_true, Bool.not_false] at h; try exact absurd trivial h))
             | ((with_reducible apply go_order); kernel_rfl; rfl)
             | (with_reducible apply go_ret)
             | (with_reducible apply go_skipc))
           | (with_reducible apply go_kseq)
           | (with_reducible apply go_ksuf)
           | (with_reducible apply go_kseq_ret)
           | ((with_reducible apply end_bool); rfl)
  all_goals try (exfalso; omega)
  all_goals simp
theorem same_refl2 (a : Grid) : sameE a a = true := by simp [sameE, alikeE]
theorem cQuays (q : Quay) (m : Grid) (hlm : m.levels.length ≤ 9223372036854775807) : Contract Tryz.prog 3 [.agg (encQuay q), .agg (encGrid m)] (.ret (.bool true)) := by
  by_cases hh : m.levels.length ≤ 30 ∧ q.name.size ≤ 50 ∧ wedX q m = 0
  rotate_left
  · exact cQuays_bad q m hlm hh
  obtain ⟨hs, hnm, hx⟩ := hh
  have hq : quayE q = 0 := by unfold wedX at hx; split at hx <;> omega
  have h0 : gridE m = 0 := by unfold wedX at hx; rw [if_neg (by omega)] at hx; exact hx
  have hm := okGrid h0
  have h24 := c24 m
  rw [decide_eq_true hs] at h24
  have h71 := c71 q
  have h168 := c168 q
  have h28 := c28 m (by omega)
  have h27 := c27 [quayE q, gridE m] (by simp)
  rw [hq] at h71 h168 h27
  rw [h0] at h28 h27
  have h27' : Contract Tryz.prog 12 [.sl [[.int .i64 0], [.int .i64 0]]] (.ret (.int .i64 0)) := h27
  have y1 := c127 q hq m hm h0 (by omega)
  have y2 := c72 q hq m hm h0 (by omega)
  have y3 := cWedge q hq m hm h0 (by omega)
  have y4 := cUnd_ref q hq m hm h0 (by omega)
  have hWl : (wedL q m m.levels.length m.levels.length).length = m.levels.length := wed_len
  have hUl := und_len q m m.levels.length
  generalize wedL q m m.levels.length m.levels.length = W at *
  generalize undL q m m.levels.length = U at *
  have z1 : Contract Tryz.prog 15 [.agg (encF5 m ++ [.sl (W.map encInt)]), .agg (encG5 m ++ [.sl (W.map encInt)])] (.ret (.bool true)) := by
    have := c32 ⟨m.x, m.y, m.side, m.cols, m.rows, W⟩ ⟨m.x, m.y, m.side, m.cols, m.rows, W⟩ (by show W.length < _; omega)
    rw [same_refl2] at this
    exact this
  have z2 : Contract Tryz.prog 17 [.sl (U.map encInt), .sl (U.map encInt)] (.ret (.bool true)) := by
    have := c79 U U (by omega)
    rwa [decide_eq_true rfl] at this
  have hF : ScalF encInt 1 := fun _ => ⟨rfl, rfl⟩
  refine contract_of mix Tryz.func3 rfl rfl (by rw [Tryz.ntmps3]; exact Nat.le_of_ble_eq_true rfl) ?_; rw [Tryz.results3, Tryz.ntmps3]; simp only [argsE, Nat.reduceAdd]
  repeat' first
           | (with_reducible apply go_op)
           | (with_reducible apply go_next)
           | ((with_reducible (show evOp _ _ _ _ _ _)); first
             | (((with_reducible apply go_mv_bool); rfl; rfl))
             | ((with_reducible apply go_as))
             | ((with_reducible (show evOp _ (.load _ _) _ _ _ _)) ; first | ((with_reducible apply go_ld_agg); rfl; rfl; rfl; rfl) | ((with_reducible apply go_load_own); rfl; rfl; rfl; rfl))
             | (((with_reducible apply go_fieldAddr_own); rfl; rfl; rfl))
             | (((with_reducible apply go_cmp); rfl; rfl; rfl; rfl))
             | ((with_reducible (show evOp _ (.call _) _ _ _ _)) ; first | ((with_reducible apply go_len_str); rfl; rfl) | ((with_reducible apply go_fn_bool); rfl; (exact c18); rfl) | ((with_reducible apply go_fn_bool); rfl; (exact h24); rfl))
             | (((with_reducible apply go_not); rfl; rfl))
             | (((with_reducible apply go_pick); rfl; rfl; rfl))
             | (((with_reducible apply go_bx_agg); rfl; rfl; (exact Nat.le_of_ble_eq_true rfl); rfl; rfl)))
           | ((with_reducible (show evOps _ _ _ _ _ _)); first
             | (with_reducible apply go_nil)
             | ((with_reducible apply go_run); rfl; rfl)
             | ((with_reducible apply go_pass); rfl; rfl; rfl)
             | (((with_reducible apply go_guard); rfl) <;> (intro h; simp only [h, Bool.not_true, Bool.not_false]; (try with_reducible (refine ⟨rfl, ?_⟩)); try simp only [decide_eq_true_eq, decide_eq_false_iff_not, Bool.not_eq_true', Bool.not_eq_false', Bool.not_true, Bool.not_false] at h; try exact absurd trivial h)))
           | ((with_reducible (show evG _ _ _ _ _)); first
             | (with_reducible apply go_seq)
             | (with_reducible apply go_region)
             | ((with_reducible apply go_cond_t); rfl; rfl)
             | ((with_reducible apply go_cond_f); rfl; rfl)
             | (with_reducible apply go_ret)
             | (with_reducible apply go_skipc))
           | (with_reducible apply go_kseq)
           | (with_reducible apply go_kseq_ret)
           | ((with_reducible apply end_bool); rfl)
           | (with_reducible rfl)
  all_goals try (exfalso; omega)
  refine go_fn_agf2 (f := encInt) (l := W) (cs := encF5 m) (q := 5) (args' := [.agg (encQuay q), .agg (encGrid m)]) rfl y1 hF rfl rfl rfl rfl rfl rfl ?_
  repeat' first
           | (with_reducible apply go_op)
           | (with_reducible apply go_next)
           | ((with_reducible (show evOp _ _ _ _ _ _)); first
             | ((with_reducible (show evOp _ (.move _) _ _ _ _)) ; first | ((with_reducible apply go_mv_int); rfl; rfl) | ((with_reducible apply go_mv_bool); rfl; rfl) | ((with_reducible apply go_mv_os); rfl; rfl) | ((with_reducible apply go_mv_tup); rfl; rfl))
             | ((with_reducible apply go_as))
             | (((with_reducible apply go_ld_agg); rfl; rfl; rfl; rfl))
             | (((with_reducible apply go_cmp); rfl; rfl; rfl; rfl))
             | ((with_reducible (show evOp _ (.call _) _ _ _ _)) ; first | ((with_reducible apply go_fn_fr2); rfl; (exact y2); (exact hF); rfl; rfl) | ((with_reducible apply go_fn_int); rfl; (exact h168); rfl) | ((with_reducible apply go_fn_int); rfl; (exact h71); rfl) | ((with_reducible apply go_fn_int); rfl; (exact h28); rfl) | ((with_reducible apply go_fn_int); rfl; (exact h27'); rfl) | ((with_reducible apply (go_fn_agf (cs := encG5 m))); rfl; (exact y3); (exact hF); rfl; rfl; rfl; rfl; rfl) | ((with_reducible apply go_fn_bool); (exact purL_agf_agf (cs := encF5 m) (cs2 := encG5 m) rfl (by simp; try assumption) rfl rfl rfl (by simp; try assumption) rfl rfl); (exact z1); rfl) | ((with_reducible apply go_fn_fr); rfl; (exact y4); (exact hF); rfl) | ((with_reducible apply go_fn_bool); (exact pur2_own rfl rfl rfl rfl (by simp) (by simp)); (exact z2); rfl))
             | (((with_reducible apply go_st_agg); rfl; rfl; rfl; rfl; rfl; rfl; rfl))
             | (((with_reducible apply go_extract); rfl; rfl))
             | (((with_reducible apply go_pick); rfl; rfl; rfl))
             | (((with_reducible apply go_alloc); rfl; rfl; rfl))
             | (((with_reducible apply go_bs2_int); rfl; rfl; rfl; rfl)))
           | ((with_reducible (show evOps _ _ _ _ _ _)); first
             | (with_reducible apply go_nil)
             | ((with_reducible apply go_run); rfl; rfl)
             | ((with_reducible apply go_pre); rfl)
             | (with_reducible apply go_pre_nil)
             | ((with_reducible apply go_suf); rfl)
             | (with_reducible apply go_suf_nil))
           | ((with_reducible (show evG _ _ _ _ _)); first
             | (with_reducible apply go_seq)
             | (with_reducible apply go_region)
             | ((with_reducible apply go_cond_f); rfl; rfl)
             | ((with_reducible apply go_order); kernel_rfl; rfl)
             | (with_reducible apply go_ret)
             | (with_reducible apply go_skipc))
           | (with_reducible apply go_kseq)
           | (with_reducible apply go_ksuf)
           | ((with_reducible apply end_bool); rfl)
           | (with_reducible rfl)
  all_goals try (exfalso; omega)
  all_goals trace_state
end Go.Pv.Soil

open Go Go.Proofs Go.Pv
set_option maxHeartbeats 1000000
set_option maxRecDepth 100000
set_option linter.unusedVariables false
namespace Go.Pv.Soil

theorem own : ownKnob Tryz.prog.godebug = none := by kernel_rfl
theorem laidOut : laidOutB Tryz.prog = true := by kernel_rfl

def okFrac (x : Int × Int) : Prop := I64 x.1 ∧ I64 x.2
def okSoil (s : Soil) : Prop := s.name.size ≤ maxLen ∧ I64 s.a ∧ I64 s.b ∧ I64 s.r ∧ I64 s.h
def okLayer (l : Layer) : Prop := I64 l.top ∧ l.soil.size ≤ maxLen
def okBor (b : Boring) : Prop := b.name.size ≤ maxLen ∧ I64 b.x ∧ I64 b.y ∧ b.layers.length ≤ maxLen ∧ ∀ l ∈ b.layers, okLayer l
def okGround (g : Ground) : Prop := (g.soils.length ≤ maxLen ∧ ∀ s ∈ g.soils, okSoil s) ∧ g.borings.length ≤ maxLen ∧ ∀ b ∈ g.borings, okBor b

theorem rInt : Reads Tryz.prog 3 I64 (fun n => [.int .i64 n]) := reads_i64 Tryz.underlying3 (by kernel_rfl)
theorem rStr : Reads Tryz.prog 9 (fun s : ByteArray => s.size ≤ maxLen) (fun s => [.str s]) := reads_str Tryz.underlying9 (by kernel_rfl)
theorem rSoil : Reads Tryz.prog 108 okSoil encSoil :=
  (reads_struct Tryz.underlying108 (by kernel_rfl) (readsF_cons (k := 1) rStr (by kernel_rfl) rfl (readsF_cons (k := 1) rInt (by kernel_rfl) rfl (readsF_cons (k := 1) rInt (by kernel_rfl) rfl
    (readsF_cons (k := 2) (reads_struct Tryz.underlying106 (by kernel_rfl) (readsF_cons (k := 1) rInt (by kernel_rfl) rfl (readsF_cons (k := 1) rInt (by kernel_rfl) rfl readsF_nil))) (by kernel_rfl) rfl readsF_nil))))).map
    (fun x => ⟨x.1, x.2.1, x.2.2.1, x.2.2.2.1.1, x.2.2.2.1.2.1⟩) (fun _ _ => rfl) (fun _ h => ⟨h.1, h.2.1, h.2.2.1, h.2.2.2.1.1, h.2.2.2.1.2.1⟩) fun _ _ => by kernel_rfl
theorem rSoils : Reads Tryz.prog 78 (fun l : List Soil => l.length ≤ maxLen ∧ ∀ a ∈ l, okSoil a) (fun l => [.sl (l.map encSoil)]) := reads_slice Tryz.underlying78 rSoil (k := 5) (by kernel_rfl) (by decide) (by kernel_rfl)
theorem rLayer : Reads Tryz.prog 110 okLayer encLayer :=
  (reads_struct Tryz.underlying110 (by kernel_rfl) (readsF_cons (k := 1) rInt (by kernel_rfl) rfl (readsF_cons (k := 1) rStr (by kernel_rfl) rfl readsF_nil))).map
    (fun x => ⟨x.1, x.2.1⟩) (fun _ _ => rfl) (fun _ h => ⟨h.1, h.2.1⟩) fun _ _ => by kernel_rfl
theorem rLayers : Reads Tryz.prog 111 (fun l : List Layer => l.length ≤ maxLen ∧ ∀ a ∈ l, okLayer a) (fun l => [.sl (l.map encLayer)]) := reads_slice Tryz.underlying111 rLayer (k := 2) (by kernel_rfl) (by decide) (by kernel_rfl)
theorem rBor : Reads Tryz.prog 113 okBor encBor :=
  (reads_struct Tryz.underlying113 (by kernel_rfl) (readsF_cons (k := 1) rStr (by kernel_rfl) rfl (readsF_cons (k := 1) rInt (by kernel_rfl) rfl (readsF_cons (k := 1) rInt (by kernel_rfl) rfl (readsF_cons (k := 1) rLayers (by kernel_rfl) rfl readsF_nil))))).map
    (fun x => ⟨x.1, x.2.1, x.2.2.1, x.2.2.2.1⟩) (fun _ _ => rfl) (fun _ h => ⟨h.1, h.2.1, h.2.2.1, h.2.2.2.1.1, h.2.2.2.1.2⟩) fun _ _ => by kernel_rfl
theorem rBors : Reads Tryz.prog 79 (fun l : List Boring => l.length ≤ maxLen ∧ ∀ a ∈ l, okBor a) (fun l => [.sl (l.map encBor)]) := reads_slice Tryz.underlying79 rBor (k := 4) (by kernel_rfl) (by decide) (by kernel_rfl)
theorem rGround : Reads Tryz.prog 81 okGround encGround :=
  (reads_struct Tryz.underlying81 (by kernel_rfl) (readsF_cons (k := 1) rSoils (by kernel_rfl) rfl (readsF_cons (k := 1) rBors (by kernel_rfl) rfl readsF_nil))).map
    (fun x => ⟨x.1, x.2.1⟩) (fun _ _ => rfl) (fun _ h => ⟨h.1, h.2.1.1, h.2.1.2⟩) fun _ _ => by kernel_rfl

theorem aGround : ReadsA Tryz.prog [81] okGround (fun g => [.agg (encGround g)]) :=
  (readsA_cons Tryz.underlying81 rGround (g := fun g => .agg (encGround g)) (.inr ⟨rfl, fun _ => rfl⟩) readsA_nil).map (fun x => x.1) (fun _ _ => rfl) (fun _ h => h.1)

theorem aSoilII : ReadsA Tryz.prog [108, 3, 3] (fun x : Soil × Int × Int => okSoil x.1 ∧ I64 x.2.1 ∧ I64 x.2.2) (fun x => [.agg (encSoil x.1), .int .i64 x.2.1, .int .i64 x.2.2]) :=
  (readsA_cons Tryz.underlying108 rSoil (g := fun s => .agg (encSoil s)) (.inr ⟨rfl, fun _ => rfl⟩) (readsA_cons Tryz.underlying3 rInt (g := fun n => .int .i64 n) (.inl ⟨rfl, fun _ => rfl⟩)
    (readsA_cons Tryz.underlying3 rInt (g := fun n => .int .i64 n) (.inl ⟨rfl, fun _ => rfl⟩) readsA_nil))).map (fun x => (x.1, x.2.1, x.2.2.1)) (fun _ _ => rfl) (fun _ h => ⟨h.1, h.2.1, h.2.2.1⟩)

theorem rPt : Reads Tryz.prog 23 (fun p : Pt => I64 p.x ∧ I64 p.y) encPt :=
  (reads_struct Tryz.underlying23 (by kernel_rfl) (readsF_cons (k := 1) rInt (by kernel_rfl) rfl (readsF_cons (k := 1) rInt (by kernel_rfl) rfl readsF_nil))).map
    (fun x => ⟨x.1, x.2.1⟩) (fun _ _ => rfl) (fun _ h => ⟨h.1, h.2.1⟩) fun _ _ => by kernel_rfl
end Go.Pv.Soil

open Go Go.Proofs Go.Pv
set_option maxHeartbeats 1000000
set_option maxRecDepth 100000
set_option linter.unusedVariables false
namespace Go.Pv.Soil

def okMap (m : Grid) : Prop := (I64 m.x ∧ I64 m.y ∧ I64 m.side ∧ I64 m.cols ∧ I64 m.rows) ∧ m.levels.length ≤ maxLen ∧ ∀ x ∈ m.levels, I64 x
theorem rInts : Reads Tryz.prog 26 (fun l : List Int => l.length ≤ maxLen ∧ ∀ a ∈ l, I64 a) (fun l => [.sl (l.map encInt)]) := reads_slice Tryz.underlying26 rInt (k := 1) (by kernel_rfl) (by decide) (by kernel_rfl)
theorem rGrid : Reads Tryz.prog 28 okMap encGrid :=
  (reads_struct Tryz.underlying28 (by kernel_rfl) (readsF_cons (k := 1) rInt (by kernel_rfl) rfl (readsF_cons (k := 1) rInt (by kernel_rfl) rfl (readsF_cons (k := 1) rInt (by kernel_rfl) rfl (readsF_cons (k := 1) rInt (by kernel_rfl) rfl (readsF_cons (k := 1) rInt (by kernel_rfl) rfl
    (readsF_cons (k := 1) rInts (by kernel_rfl) rfl readsF_nil))))))).map
    (fun x => ⟨x.1, x.2.1, x.2.2.1, x.2.2.2.1, x.2.2.2.2.1, x.2.2.2.2.2.1⟩) (fun _ _ => rfl) (fun _ h => ⟨⟨h.1, h.2.1, h.2.2.1, h.2.2.2.1, h.2.2.2.2.1⟩, h.2.2.2.2.2.1.1, h.2.2.2.2.2.1.2⟩) fun _ _ => by kernel_rfl

theorem aMap : ReadsA Tryz.prog [81, 28] (fun x : Ground × Grid => okGround x.1 ∧ okMap x.2) (fun x => [.agg (encGround x.1), .agg (encGrid x.2)]) :=
  (readsA_cons Tryz.underlying81 rGround (g := fun g => .agg (encGround g)) (.inr ⟨rfl, fun _ => rfl⟩) (readsA_cons Tryz.underlying28 rGrid (g := fun g => .agg (encGrid g)) (.inr ⟨rfl, fun _ => rfl⟩) readsA_nil)).map
    (fun x => (x.1, x.2.1)) (fun _ _ => rfl) (fun _ h => ⟨h.1, h.2.1⟩)
theorem aMaps : ReadsA Tryz.prog [81, 28, 28] (fun x : Ground × Grid × Grid => okGround x.1 ∧ okMap x.2.1 ∧ okMap x.2.2) (fun x => [.agg (encGround x.1), .agg (encGrid x.2.1), .agg (encGrid x.2.2)]) :=
  (readsA_cons Tryz.underlying81 rGround (g := fun g => .agg (encGround g)) (.inr ⟨rfl, fun _ => rfl⟩) (readsA_cons Tryz.underlying28 rGrid (g := fun g => .agg (encGrid g)) (.inr ⟨rfl, fun _ => rfl⟩) (readsA_cons Tryz.underlying28 rGrid (g := fun g => .agg (encGrid g)) (.inr ⟨rfl, fun _ => rfl⟩) readsA_nil))).map
    (fun x => (x.1, x.2.1, x.2.2.1)) (fun _ _ => rfl) (fun _ h => ⟨h.1, h.2.1, h.2.2.1⟩)
end Go.Pv.Soil

open Go Go.Proofs Go.Pv
set_option maxHeartbeats 1000000
set_option maxRecDepth 100000
set_option linter.unusedVariables false
namespace Go.Pv.Soil
theorem rGPq : Reads Tryz.prog 23 (fun p : Geo.Pt => I64 p.x ∧ I64 p.y) Geo.encPt :=
  (reads_struct Tryz.underlying23 (by kernel_rfl) (readsF_cons (k := 1) rInt (by kernel_rfl) rfl (readsF_cons (k := 1) rInt (by kernel_rfl) rfl readsF_nil))).map
    (fun x => ⟨x.1, x.2.1⟩) (fun _ _ => rfl) (fun _ h => ⟨h.1, h.2.1⟩) fun _ _ => by kernel_rfl
theorem rQuay : Reads Tryz.prog 25 (fun q : Quay => q.name.size ≤ maxLen) encQuay :=
  (reads_struct Tryz.underlying25 (by kernel_rfl) (readsF_cons (k := 1) rStr (by kernel_rfl) rfl (readsF_cons (k := 2) rGPq (by kernel_rfl) rfl (readsF_cons (k := 2) rGPq (by kernel_rfl) rfl (readsF_cons (k := 1) rInt (by kernel_rfl) rfl (readsF_cons (k := 1) rInt (by kernel_rfl) rfl readsF_nil)))))).map
    (fun x => ⟨x.1, x.2.1, x.2.2.1, x.2.2.2.1, x.2.2.2.2.1⟩) (fun _ _ => rfl) (fun _ h => h.1) fun _ _ => by kernel_rfl
theorem aWedge : ReadsA Tryz.prog [25, 28] (fun x : Quay × Grid => x.1.name.size ≤ maxLen ∧ okMap x.2) (fun x => [.agg (encQuay x.1), .agg (encGrid x.2)]) :=
  (readsA_cons Tryz.underlying25 rQuay (g := fun q => .agg (encQuay q)) (.inr ⟨rfl, fun _ => rfl⟩) (readsA_cons Tryz.underlying28 rGrid (g := fun g => .agg (encGrid g)) (.inr ⟨rfl, fun _ => rfl⟩) readsA_nil)).map
    (fun x => (x.1, x.2.1)) (fun _ _ => rfl) (fun _ h => ⟨h.1, h.2.1⟩)
end Go.Pv.Soil

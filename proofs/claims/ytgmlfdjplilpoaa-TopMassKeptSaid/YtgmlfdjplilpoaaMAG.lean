import Derived.Test.YtgmlfdjplilpoaaProg
import Derived.Test.YtgmlfdjplilpoaaMAF
import Derived.KernelRfl
import Derived.Test.YtgmlfdjplilpoaaMAE
import Derived.Test.YtgmlfdjplilpoaaMAD
/- Part of the proofs over Ytgmlfdjplilpoaa: K16, K17, K18, K19, S13, K20, K21, K22, K23, R11. -/
set_option linter.unusedVariables false
set_option linter.unusedSimpArgs false
set_option linter.unnecessarySimpa false
open Go Go.Proofs Go.Pv
set_option maxHeartbeats 4000000
set_option maxRecDepth 100000
set_option linter.unusedSimpArgs false
set_option linter.unusedVariables false
namespace Go.Pv.Soil
theorem check_1 {s : Yard} {i : Nat} (h8 : ¬ 8 < s.pits.length) (hi : i < s.pits.length) (hC : ∀ j, j < i → pitE s j = 0) (hne : pitE s i ≠ 0) : checkRE s = pitE s i := by
  have e := firstE_at hi hC hne
  unfold checkRE
  rw [if_neg h8, if_pos (by rw [e]; exact hne), e]
theorem check_2 {s : Yard} (h8 : ¬ 8 < s.pits.length) (hC : ∀ j, j < s.pits.length → pitE s j = 0) (hne : bulkErrE s ≠ 0) : checkRE s = bulkErrE s := by
  unfold checkRE
  rw [if_neg h8, if_neg (by rw [firstE_zero hC]; simp), if_pos hne]
theorem check_3 {s : Yard} (h8 : ¬ 8 < s.pits.length) (hC : ∀ j, j < s.pits.length → pitE s j = 0) (hb : bulkErrE s = 0) (h200 : 200 < s.deps.length) : checkRE s = 8 := by
  unfold checkRE
  rw [if_neg h8, if_neg (by rw [firstE_zero hC]; simp), if_neg (by rw [hb]; simp), if_pos h200]
theorem check_4 {s : Yard} {i : Nat} (h8 : ¬ 8 < s.pits.length) (hC : ∀ j, j < s.pits.length → pitE s j = 0) (hb : bulkErrE s = 0) (h200 : ¬ 200 < s.deps.length) (hi : i < s.deps.length) (hD : ∀ j, j < i → depE s j = 0) (hne : depE s i ≠ 0) : checkRE s = depE s i := by
  have e := firstE_at hi hD hne
  unfold checkRE
  rw [if_neg h8, if_neg (by rw [firstE_zero hC]; simp), if_neg (by rw [hb]; simp), if_neg h200, if_pos (by rw [e]; exact hne), e]
theorem check_5 {s : Yard} (h8 : ¬ 8 < s.pits.length) (hC : ∀ j, j < s.pits.length → pitE s j = 0) (hb : bulkErrE s = 0) (h200 : ¬ 200 < s.deps.length) (hD : ∀ j, j < s.deps.length → depE s j = 0) : checkRE s = firstE s.pits.length (capErr s) := by
  unfold checkRE
  rw [if_neg h8, if_neg (by rw [firstE_zero hC]; simp), if_neg (by rw [hb]; simp), if_neg h200, if_neg (by rw [firstE_zero hD]; simp)]
theorem r_Check (s : Yard) (h1 : s.pits.length ≤ 1000) (h2 : s.bulk.length ≤ 1000) (h3 : s.carry.length ≤ 1000) (h4 : s.deps.length ≤ 1000) (h5 : ∀ p ∈ s.pits, p.classes.length ≤ 1000000) : Contract Try.prog 9 [.agg (encYard s)] (.ret (.int .i64 (checkRE s))) := by
  have hbk := r_bulkingErr s h2 h3
  refine contract_of mix Try.func9 rfl rfl (by rw [Try.ntmps9]; exact Nat.le_of_ble_eq_true rfl) ?_; rw [Try.results9, Try.ntmps9]; simp only [argsE, Nat.reduceAdd]
  repeat' first
           | (with_reducible apply go_op)
           | (with_reducible apply go_next)
           | ((with_reducible (show evOp _ _ _ _ _ _)); first
             | (((with_reducible apply go_mv_int); rfl; rfl))
             | ((with_reducible apply go_as))
             | (((with_reducible apply go_load_own); rfl; rfl; rfl; rfl))
             | (((with_reducible apply go_fieldAddr_own); rfl; rfl; rfl))
             | (((with_reducible apply go_cmp); rfl; rfl; rfl; rfl))
             | (((with_reducible apply go_len); rfl; rfl))
             | (((with_reducible apply go_bx_agg); rfl; rfl; (exact Nat.le_of_ble_eq_true rfl); rfl; rfl)))
           | ((with_reducible (show evOps _ _ _ _ _ _)); first
             | (with_reducible apply go_nil))
           | ((with_reducible (show evG _ _ _ _ _)); first
             | (with_reducible apply go_seq)
             | (with_reducible apply go_region)
             | (((with_reducible apply go_cond); rfl) <;> (intro h; simp only [h]; try simp only [decide_eq_true_eq, decide_eq_false_iff_not, Bool.not_eq_true', Bool.not_eq_false', Bool.not_true, Bool.not_false] at h; try exact absurd trivial h))
             | (with_reducible apply go_ret)
             | (with_reducible apply go_skipc)
             | (with_reducible apply go_block))
           | (with_reducible apply go_kseq)
           | (with_reducible apply go_kseq_ret)
           | ((with_reducible apply end_int); rfl)
  · unfold checkRE; rw [if_pos (by omega)]
  refine go_count s.pits.length (fun i => ⟨[(3, .int .i64 i), (1, .op 0 0 0)], [(0, ⟨4, true, [encYard s]⟩)], 32, 92⟩) (fun i => ∀ j, j < i → pitE s j = 0) (entails_eq (nx := 32) (k := 0) (ns := []) (ks := [3, 1]) [(0, 0)] rfl (by simp) (by kernel_rfl)) (by omega) ?_
  intro i hi hC
  by_cases hlt : i < s.pits.length
  · have hpe := r_pitErr s.pits[i] (s.pits.take i) (by rw [List.length_take]; omega) (by have := h5 s.pits[i] (List.getElem_mem _); omega)
    have he := pitE_at hlt
    rw [← he] at hpe
    generalize hq : pitE s i = q at *
    repeat' first
           | (with_reducible apply go_op)
           | (with_reducible apply go_next)
           | ((with_reducible (show evOp _ _ _ _ _ _)); first
             | (((with_reducible apply go_mv_int); rfl; rfl))
             | ((with_reducible apply go_as))
             | ((with_reducible (show evOp _ (.load _ _) _ _ _ _)) ; first | ((with_reducible apply go_ld_ptr); rfl; rfl; rfl) | ((with_reducible apply go_ld_agg); rfl; rfl; rfl; rfl) | ((with_reducible apply go_load_own); rfl; rfl; rfl; rfl))
             | (((with_reducible apply go_fieldAddr_own); rfl; rfl; rfl))
             | (((with_reducible apply go_index_nat); rfl; rfl; (with_reducible rfl); (intro; rfl); rfl; omega; (intro hlt)))
             | ((with_reducible (show evOp _ (.binOp _ _ _ _ _) _ _ _ _)) ; first | ((with_reducible apply go_cmp); rfl; rfl; rfl; rfl) | ((with_reducible apply go_add); rfl; rfl; rfl; omega))
             | ((with_reducible (show evOp _ (.call _) _ _ _ _)) ; first | ((with_reducible apply go_len); rfl; rfl) | ((with_reducible apply go_fn_int); rfl; (exact hpe); rfl))
             | (((with_reducible apply go_take_sl); rfl; rfl; (intro; rfl); rfl; omega)))
           | ((with_reducible (show evOps _ _ _ _ _ _)); first
             | (with_reducible apply go_nil)
             | ((with_reducible apply go_pre); rfl)
             | (with_reducible apply go_pre_nil)
             | ((with_reducible apply go_suf); rfl)
             | (with_reducible apply go_suf_nil))
           | ((with_reducible (show evG _ _ _ _ _)); first
             | (with_reducible apply go_seq)
             | (with_reducible apply go_region)
             | (((with_reducible apply go_cond); rfl) <;> (intro h; simp only [h]; try simp only [decide_eq_true_eq, decide_eq_false_iff_not, Bool.not_eq_true', Bool.not_eq_false', Bool.not_true, Bool.not_false] at h; try exact absurd trivial h))
             | ((with_reducible apply go_order); kernel_rfl; rfl)
             | (with_reducible apply go_ret)
             | (with_reducible apply go_skipc)
             | (with_reducible apply go_block)
             | (with_reducible apply go_exit))
           | (with_reducible apply go_kseq)
           | (with_reducible apply go_ksuf)
           | (with_reducible apply go_kseq_ret)
           | (with_reducible apply go_kblock)
           | (with_reducible apply go_kblock_ret)
           | (with_reducible apply go_kblock_exit)
           | (with_reducible apply go_kseq_exit)
           | ((with_reducible apply end_int); rfl)
    all_goals first
      | exact absurd hlt (by omega)
      | (rw [check_1 (by omega) (by omega) hC (by rw [hq]; assumption), hq])
      | (refine ⟨by omega, fun j hj => ?_, entails_eq (nx := 32) (k := 0) (ns := []) (ks := [3, 1]) [(0, 0)] rfl (by simp) (by kernel_rfl)⟩
         rcases Nat.lt_succ_iff_lt_or_eq.1 hj with h' | rfl
         · exact hC j h'
         · rw [hq]; assumption)
      | trace_state
  have e : i = s.pits.length := by omega
  subst e
  generalize hbq : bulkErrE s = bq at *
  repeat' first
           | (with_reducible apply go_op)
           | (with_reducible apply go_next)
           | ((with_reducible (show evOp _ _ _ _ _ _)); first
             | (((with_reducible apply go_mv_int); rfl; rfl))
             | ((with_reducible apply go_as))
             | ((with_reducible (show evOp _ (.load _ _) _ _ _ _)) ; first | ((with_reducible apply go_ld_ptr); rfl; rfl; rfl) | ((with_reducible apply go_ld_agg); rfl; rfl; rfl; rfl) | ((with_reducible apply go_load_own); rfl; rfl; rfl; rfl))
             | (((with_reducible apply go_fieldAddr_own); rfl; rfl; rfl))
             | (((with_reducible apply go_index_nat); rfl; rfl; (with_reducible rfl); (intro; rfl); rfl; omega; (intro hlt)))
             | (((with_reducible apply go_cmp); rfl; rfl; rfl; rfl))
             | ((with_reducible (show evOp _ (.call _) _ _ _ _)) ; first | ((with_reducible apply go_len); rfl; rfl) | ((with_reducible apply go_fn_int); rfl; (exact hbk); rfl))
             | (((with_reducible apply go_take_sl); rfl; rfl; (intro; rfl); rfl; omega)))
           | ((with_reducible (show evOps _ _ _ _ _ _)); first
             | (with_reducible apply go_nil)
             | ((with_reducible apply go_pre); rfl))
           | ((with_reducible (show evG _ _ _ _ _)); first
             | (with_reducible apply go_seq)
             | (with_reducible apply go_region)
             | (((with_reducible apply go_cond); rfl) <;> (intro h; simp only [h]; try simp only [decide_eq_true_eq, decide_eq_false_iff_not, Bool.not_eq_true', Bool.not_eq_false', Bool.not_true, Bool.not_false] at h; try exact absurd trivial h))
             | ((with_reducible apply go_order); kernel_rfl; rfl)
             | (with_reducible apply go_ret)
             | (with_reducible apply go_skipc)
             | (with_reducible apply go_block)
             | (with_reducible apply go_exit))
           | (with_reducible apply go_kseq)
           | (with_reducible apply go_kseq_ret)
           | (with_reducible apply go_kblock_exit)
           | (with_reducible apply go_kseq_exit)
           | ((with_reducible apply end_int); rfl)
  all_goals first
    | exact absurd hlt (by omega)
    | (rw [check_2 (by omega) hC (by rw [hbq]; assumption), hbq])
    | (rw [check_3 (by omega) hC (by rw [hbq]; assumption) (by omega)])
    | skip
  have hb0 : bulkErrE s = 0 := by rw [hbq]; assumption
  refine go_count s.deps.length (fun i => ⟨[(6, .int .i64 i), (1, .op 0 0 0)], [(0, ⟨4, true, [encYard s]⟩)], 32, 92⟩) (fun i => ∀ j, j < i → depE s j = 0) (entails_eq (nx := 32) (k := 0) (ns := []) (ks := [6, 1]) [(0, 0)] rfl (by simp) (by kernel_rfl)) (by omega) ?_
  intro i hi hD
  by_cases hlj : i < s.deps.length
  · have hs := depE_at hlj
    have hdp := r_Deposited (s.deps.take i) (by rw [List.length_take]; omega) s.deps[i].batch
    have hpi : Contract Try.prog 21 _ (.ret (.int .i64 (pitI s s.deps[i].pit))) := r_Find s.pits (by omega) s.deps[i].pit
    generalize ((s.deps.take i).any fun x => decide (x.batch = s.deps[i].batch)) = dq at *
    generalize pitI s s.deps[i].pit = pq at *
    repeat' first
           | (with_reducible apply go_op)
           | (with_reducible apply go_next)
           | ((with_reducible (show evOp _ _ _ _ _ _)); first
             | (((with_reducible apply go_mv_int); rfl; rfl))
             | ((with_reducible apply go_as))
             | ((with_reducible (show evOp _ (.load _ _) _ _ _ _)) ; first | ((with_reducible apply go_ld_ptr); rfl; rfl; rfl) | ((with_reducible apply go_load_own); rfl; rfl; rfl; rfl))
             | (((with_reducible apply go_fieldAddr_own); rfl; rfl; rfl))
             | (((with_reducible apply go_index_nat); rfl; rfl; (with_reducible rfl); (intro; rfl); rfl; omega; (intro hlt)))
             | ((with_reducible (show evOp _ (.binOp _ _ _ _ _) _ _ _ _)) ; first | ((with_reducible apply go_cmp); rfl; rfl; rfl; rfl) | ((with_reducible apply go_add); rfl; rfl; rfl; omega))
             | ((with_reducible (show evOp _ (.call _) _ _ _ _)) ; first | ((with_reducible apply go_len); rfl; rfl) | ((with_reducible apply go_fn_bool); rfl; (exact c38 _ _ _); rfl) | ((with_reducible apply go_fn_bool); rfl; (exact hdp); rfl) | ((with_reducible apply go_fn_int); rfl; (exact hpi); rfl))
             | (((with_reducible apply go_st_agg); rfl; rfl; rfl; rfl; rfl; rfl; rfl))
             | (((with_reducible apply go_take_sl); rfl; rfl; (intro; rfl); rfl; omega))
             | (((with_reducible apply go_not); rfl; rfl))
             | (((with_reducible apply go_alloc); rfl; rfl; rfl)))
           | ((with_reducible (show evOps _ _ _ _ _ _)); first
             | (with_reducible apply go_nil)
             | ((with_reducible apply go_pre); rfl)
             | (with_reducible apply go_pre_nil)
             | ((with_reducible apply go_suf); rfl)
             | (with_reducible apply go_suf_nil))
           | ((with_reducible (show evG _ _ _ _ _)); first
             | (with_reducible apply go_seq)
             | (with_reducible apply go_region)
             | (((with_reducible apply go_cond); rfl) <;> (intro h; simp only [h]; try simp only [decide_eq_true_eq, decide_eq_false_iff_not, Bool.not_eq_true', Bool.not_eq_false', Bool.not_true, Bool.not_false] at h; try exact absurd trivial h))
             | ((with_reducible apply go_order); kernel_rfl; rfl)
             | (with_reducible apply go_ret)
             | (with_reducible apply go_skipc)
             | (with_reducible apply go_block)
             | (with_reducible apply go_exit))
           | (with_reducible apply go_kseq)
           | (with_reducible apply go_ksuf)
           | (with_reducible apply go_kseq_ret)
           | (with_reducible apply go_kblock)
           | (with_reducible apply go_kblock_ret)
           | (with_reducible apply go_kblock_exit)
           | (with_reducible apply go_kseq_exit)
           | ((with_reducible apply end_int); rfl)
    all_goals first
      | exact absurd hlj (by omega)
      | (have he : depE s i = 2 := by rw [hs, if_pos (by assumption)]
         rw [check_4 (by omega) hC hb0 (by omega) (by omega) hD (by rw [he]; decide), he])
      | (have he : depE s i = 5 := by rw [hs, if_neg (by omega), if_pos (by assumption)]
         rw [check_4 (by omega) hC hb0 (by omega) (by omega) hD (by rw [he]; decide), he])
      | (have he : depE s i = 6 := by rw [hs, if_neg (by omega), if_neg (by simp [*]), if_pos (by omega)]
         rw [check_4 (by omega) hC hb0 (by omega) (by omega) hD (by rw [he]; decide), he])
      | (have he : depE s i = 2 := by rw [hs, if_neg (by omega), if_neg (by simp [*]), if_neg (by omega), if_pos (by omega)]
         rw [check_4 (by omega) hC hb0 (by omega) (by omega) hD (by rw [he]; decide), he])
      | (have he : depE s i = 0 := by rw [hs, if_neg (by omega), if_neg (by simp [*]), if_neg (by omega), if_neg (by omega)]
         refine ⟨by omega, fun j hj => ?_, entails_eq (nx := 32) (k := 0) (ns := []) (ks := [6, 1]) [(0, 0)] rfl (by simp) (by kernel_rfl)⟩
         rcases Nat.lt_succ_iff_lt_or_eq.1 hj with h' | rfl
         · exact hD j h'
         · exact he)
      | trace_state
  have e : i = s.deps.length := by omega
  subst e
  have hun := check_5 (by omega) hC hb0 (by omega) hD
  repeat' first
           | (with_reducible apply go_op)
           | (with_reducible apply go_next)
           | ((with_reducible (show evOp _ _ _ _ _ _)); first
             | (((with_reducible apply go_mv_int); rfl; rfl))
             | ((with_reducible apply go_as))
             | ((with_reducible (show evOp _ (.load _ _) _ _ _ _)) ; first | ((with_reducible apply go_ld_ptr); rfl; rfl; rfl) | ((with_reducible apply go_load_own); rfl; rfl; rfl; rfl))
             | (((with_reducible apply go_fieldAddr_own); rfl; rfl; rfl))
             | (((with_reducible apply go_index_nat); rfl; rfl; (with_reducible rfl); (intro; rfl); rfl; omega; (intro hlt)))
             | (((with_reducible apply go_cmp); rfl; rfl; rfl; rfl))
             | (((with_reducible apply go_len); rfl; rfl))
             | (((with_reducible apply go_st_agg); rfl; rfl; rfl; rfl; rfl; rfl; rfl))
             | (((with_reducible apply go_alloc); rfl; rfl; rfl)))
           | ((with_reducible (show evOps _ _ _ _ _ _)); first
             | (with_reducible apply go_nil))
           | ((with_reducible (show evG _ _ _ _ _)); first
             | (with_reducible apply go_seq)
             | (with_reducible apply go_region)
             | (((with_reducible apply go_cond); rfl) <;> (intro h; simp only [h]; try simp only [decide_eq_true_eq, decide_eq_false_iff_not, Bool.not_eq_true', Bool.not_eq_false', Bool.not_true, Bool.not_false] at h; try exact absurd trivial h))
             | (with_reducible apply go_skipc)
             | (with_reducible apply go_block)
             | (with_reducible apply go_exit))
           | (with_reducible apply go_kseq)
           | (with_reducible apply go_kblock_exit)
           | (with_reducible apply go_kseq_exit)
  all_goals first
    | exact absurd hlj (by omega)
    | skip
  refine go_count s.pits.length (fun i => ⟨[(8, .int .i64 i), (1, .op 0 0 0)], [(0, ⟨4, true, [encYard s]⟩)], 32, 92⟩) (fun i => ∀ j, j < i → capErr s j = 0) (entails_eq (nx := 32) (k := 0) (ns := []) (ks := [8, 1]) [(0, 0)] rfl (by simp) (by kernel_rfl)) (by omega) ?_
  intro m hm hE
  by_cases hlm : m < s.pits.length
  · have hs := capErr_at hlm
    have hdk : ∀ d ∈ s.deps, depOK d = true := fun d hd => by
      obtain ⟨j, hj, rfl⟩ := List.mem_iff_getElem.1 hd
      exact (depE_ok hj (hD j hj)).1
    have htk := r_Taken s m hlm (by omega) hdk
    have hcp := r_Capacity s.pits[m] (pitErr_ok ((pitE_at hlm).symm.trans (hC m hlm))).2.2.1
    generalize takE s.deps s.pits[m].name = tq at *
    generalize capE s.pits[m] = cq at *
    repeat' first
           | (with_reducible apply go_op)
           | (with_reducible apply go_next)
           | ((with_reducible (show evOp _ _ _ _ _ _)); first
             | (((with_reducible apply go_mv_int); rfl; rfl))
             | ((with_reducible apply go_as))
             | ((with_reducible (show evOp _ (.load _ _) _ _ _ _)) ; first | ((with_reducible apply go_ld_ptr); rfl; rfl; rfl) | ((with_reducible apply go_ld_agg); rfl; rfl; rfl; rfl) | ((with_reducible apply go_load_own); rfl; rfl; rfl; rfl))
             | (((with_reducible apply go_fieldAddr_own); rfl; rfl; rfl))
             | (((with_reducible apply go_index_nat); rfl; rfl; (with_reducible rfl); (intro; rfl); rfl; omega; (intro hlt)))
             | ((with_reducible (show evOp _ (.binOp _ _ _ _ _) _ _ _ _)) ; first | ((with_reducible apply go_cmp); rfl; rfl; rfl; rfl) | ((with_reducible apply go_add); rfl; rfl; rfl; omega))
             | ((with_reducible (show evOp _ (.call _) _ _ _ _)) ; first | ((with_reducible apply go_len); rfl; rfl) | ((with_reducible apply go_fn_int); rfl; (exact htk); rfl) | ((with_reducible apply go_fn_int); rfl; (exact hcp); rfl)))
           | ((with_reducible (show evOps _ _ _ _ _ _)); first
             | (with_reducible apply go_nil)
             | ((with_reducible apply go_pre); rfl)
             | (with_reducible apply go_pre_nil)
             | ((with_reducible apply go_suf); rfl)
             | (with_reducible apply go_suf_nil))
           | ((with_reducible (show evG _ _ _ _ _)); first
             | (with_reducible apply go_seq)
             | (with_reducible apply go_region)
             | (((with_reducible apply go_cond); rfl) <;> (intro h; simp only [h]; try simp only [decide_eq_true_eq, decide_eq_false_iff_not, Bool.not_eq_true', Bool.not_eq_false', Bool.not_true, Bool.not_false] at h; try exact absurd trivial h))
             | ((with_reducible apply go_order); kernel_rfl; rfl)
             | (with_reducible apply go_ret)
             | (with_reducible apply go_skipc)
             | (with_reducible apply go_block)
             | (with_reducible apply go_exit))
           | (with_reducible apply go_kseq)
           | (with_reducible apply go_ksuf)
           | (with_reducible apply go_kseq_ret)
           | (with_reducible apply go_kblock)
           | (with_reducible apply go_kblock_ret)
           | (with_reducible apply go_kblock_exit)
           | (with_reducible apply go_kseq_exit)
           | ((with_reducible apply end_int); rfl)
    all_goals first
      | exact absurd hlm (by omega)
      | (have he : capErr s m = 19 := by rw [hs, if_pos (by omega)]
         rw [hun, firstE_at (by omega) hE (by rw [he]; decide), he])
      | (have he : capErr s m = 0 := by rw [hs, if_neg (by omega)]
         refine ⟨by omega, fun j hj => ?_, entails_eq (nx := 32) (k := 0) (ns := []) (ks := [8, 1]) [(0, 0)] rfl (by simp) (by kernel_rfl)⟩
         rcases Nat.lt_succ_iff_lt_or_eq.1 hj with h' | rfl
         · exact hE j h'
         · exact he)
      | trace_state
  · repeat' first
           | (with_reducible apply go_op)
           | (with_reducible apply go_next)
           | ((with_reducible (show evOp _ _ _ _ _ _)); first
             | (((with_reducible apply go_mv_int); rfl; rfl))
             | ((with_reducible apply go_as))
             | ((with_reducible (show evOp _ (.load _ _) _ _ _ _)) ; first | ((with_reducible apply go_ld_agg); rfl; rfl; rfl; rfl) | ((with_reducible apply go_load_own); rfl; rfl; rfl; rfl))
             | (((with_reducible apply go_fieldAddr_own); rfl; rfl; rfl))
             | (((with_reducible apply go_cmp); rfl; rfl; rfl; rfl))
             | (((with_reducible apply go_len); rfl; rfl)))
           | ((with_reducible (show evOps _ _ _ _ _ _)); first
             | (with_reducible apply go_nil)
             | ((with_reducible apply go_pre); rfl))
           | ((with_reducible (show evG _ _ _ _ _)); first
             | (with_reducible apply go_seq)
             | (with_reducible apply go_region)
             | (((with_reducible apply go_cond); rfl) <;> (intro h; simp only [h]; try simp only [decide_eq_true_eq, decide_eq_false_iff_not, Bool.not_eq_true', Bool.not_eq_false', Bool.not_true, Bool.not_false] at h; try exact absurd trivial h))
             | ((with_reducible apply go_order); kernel_rfl; rfl)
             | (with_reducible apply go_ret)
             | (with_reducible apply go_skipc)
             | (with_reducible apply go_block)
             | (with_reducible apply go_exit))
           | (with_reducible apply go_kseq)
           | (with_reducible apply go_kblock_exit)
           | (with_reducible apply go_kseq_exit)
           | ((with_reducible apply end_int); rfl)
    all_goals first
      | exact absurd hlm (by omega)
      | (rw [hun]; exact (firstE_zero fun j hj => hE j (by omega)).symm)
      | trace_state
end Go.Pv.Soil

open Go Go.Proofs Go.Pv
set_option maxHeartbeats 4000000
set_option maxRecDepth 100000
set_option linter.unusedSimpArgs false
set_option linter.unusedVariables false
namespace Go.Pv.Soil
def lstErr (s : Yard) (l : List Batch) (i : Nat) : Int := match l[i]? with
  | none => 0
  | some b => if batErrE s b ≠ 0 then batErrE s b else if 0 ≤ idxOf (fun x => decide (x.number = b.number)) (l.take i) ∨ (s.deps.any fun x => decide (x.batch = b.number)) = true then 5 else 0
def listErrE (s : Yard) (l : List Batch) (most : Int) : Int := if most < l.length then 8 else firstE l.length (lstErr s l)
theorem lstErr_at {s : Yard} {l : List Batch} {i : Nat} (h : i < l.length) : lstErr s l i = if batErrE s l[i] ≠ 0 then batErrE s l[i] else if 0 ≤ idxOf (fun x => decide (x.number = l[i].number)) (l.take i) ∨ (s.deps.any fun x => decide (x.batch = l[i].number)) = true then 5 else 0 := by
  simp only [lstErr, List.getElem?_eq_getElem h]
theorem listErr_ok {s : Yard} {l : List Batch} {most : Int} (h : listErrE s l most = 0) : l.length ≤ most ∧ (∀ b ∈ l, OkBatch s b) ∧ (l.Pairwise fun x y => x.number ≠ y.number) ∧ ∀ b ∈ l, depB s b.number = false := by
  unfold listErrE at h
  split at h
  · simp at h
  have hf := k_firstAll h
  have H : ∀ i (hi : i < l.length), batErrE s l[i] = 0 ∧ idxOf (fun x => decide (x.number = l[i].number)) (l.take i) < 0 ∧ depB s l[i].number = false := fun i hi => by
    have := hf i hi
    rw [lstErr_at hi] at this
    split at this
    · rename_i hne; exact absurd this hne
    · rename_i h1
      split at this
      · simp at this
      · rename_i h2
        exact ⟨Classical.not_not.1 h1, by have := fun hh => h2 (.inl hh); omega, by unfold depB; simpa using fun hh => h2 (.inr hh)⟩
  refine ⟨by omega, fun b hb => ?_, pairwise_take fun i hi x hx => ?_, fun b hb => ?_⟩
  · obtain ⟨i, hi, rfl⟩ := List.mem_iff_getElem.1 hb
    exact batErr_ok (H i hi).1
  · simpa using idxOf_neg (H i hi).2.1 x hx
  · obtain ⟨i, hi, rfl⟩ := List.mem_iff_getElem.1 hb
    exact (H i hi).2.2
theorem r_ListErr (s : Yard) (l : List Batch) (most : Int) (h2 : s.bulk.length ≤ 1000) (h4 : s.deps.length ≤ 1000) (hl : l.length < 1000000000000) : Contract Try.prog 10 [.agg (encYard s), .sl (l.map encBatch), .int .i64 most, .bool true] (.ret (.int .i64 (listErrE s l most))) := by
  refine contract_of mix Try.func10 rfl rfl (by rw [Try.ntmps10]; exact Nat.le_of_ble_eq_true rfl) ?_; rw [Try.results10, Try.ntmps10]; simp only [argsE, Nat.reduceAdd]
  repeat' first
           | (with_reducible apply go_op)
           | (with_reducible apply go_next)
           | ((with_reducible (show evOp _ _ _ _ _ _)); first
             | ((with_reducible (show evOp _ (.move _) _ _ _ _)) ; first | ((with_reducible apply go_mv_int); rfl; rfl) | ((with_reducible apply go_mv_sl); rfl; rfl))
             | ((with_reducible apply go_as))
             | (((with_reducible apply go_cmp); rfl; rfl; rfl; rfl))
             | (((with_reducible apply go_len); rfl; rfl))
             | (((with_reducible apply go_bx_agg); rfl; rfl; (exact Nat.le_of_ble_eq_true rfl); rfl; rfl)))
           | ((with_reducible (show evOps _ _ _ _ _ _)); first
             | (with_reducible apply go_nil))
           | ((with_reducible (show evG _ _ _ _ _)); first
             | (with_reducible apply go_seq)
             | (with_reducible apply go_region)
             | (((with_reducible apply go_cond); rfl) <;> (intro h; simp only [h]; try simp only [decide_eq_true_eq, decide_eq_false_iff_not, Bool.not_eq_true', Bool.not_eq_false', Bool.not_true, Bool.not_false] at h; try exact absurd trivial h))
             | (with_reducible apply go_ret)
             | (with_reducible apply go_skipc)
             | (with_reducible apply go_block))
           | (with_reducible apply go_kseq)
           | (with_reducible apply go_kseq_ret)
           | ((with_reducible apply end_int); rfl)
  · unfold listErrE; rw [if_pos (by omega)]
  refine go_count l.length (fun i => ⟨[(9, .int .i64 i), (1, .sl (l.map encBatch)), (3, .bool true), (4, .op 0 0 0)], [(0, ⟨4, true, [encYard s]⟩)], 32, 53⟩) (fun i => ∀ j, j < i → lstErr s l j = 0) (entails_eq (nx := 32) (k := 0) (ns := []) (ks := [9, 1, 3, 4]) [(0, 0)] rfl (by simp) (by kernel_rfl)) (by omega) ?_
  intro i hi hC
  have hun : listErrE s l most = firstE l.length (lstErr s l) := by unfold listErrE; rw [if_neg (by omega)]
  by_cases hlt : i < l.length
  · have hs := lstErr_at (s := s) hlt
    have hb := r_BatchErr s l[i] h2
    have ha := r_At (l.take i) (by rw [List.length_take]; omega) l[i].number
    have hd := r_Deposited s.deps (by omega) l[i].number
    generalize batErrE s l[i] = bq at *
    generalize idxOf (fun x => decide (x.number = l[i].number)) (l.take i) = aq at *
    generalize (s.deps.any fun x => decide (x.batch = l[i].number)) = dq at *
    repeat' first
           | (with_reducible apply go_op)
           | (with_reducible apply go_next)
           | ((with_reducible (show evOp _ _ _ _ _ _)); first
             | ((with_reducible (show evOp _ (.move _) _ _ _ _)) ; first | ((with_reducible apply go_mv_int); rfl; rfl) | ((with_reducible apply go_mv_bool); rfl; rfl) | ((with_reducible apply go_mv_sl); rfl; rfl))
             | ((with_reducible apply go_as))
             | ((with_reducible (show evOp _ (.load _ _) _ _ _ _)) ; first | ((with_reducible apply go_ld_ptr); rfl; rfl; rfl) | ((with_reducible apply go_ld_agg); rfl; rfl; rfl; rfl) | ((with_reducible apply go_load); rfl; rfl; rfl) | ((with_reducible apply go_load_own); rfl; rfl; rfl; rfl))
             | ((with_reducible (show evOp _ (.fieldAddr _ _ _) _ _ _ _)) ; first | ((with_reducible apply go_fieldAddr); rfl; rfl) | ((with_reducible apply go_fieldAddr_own); rfl; rfl; rfl))
             | (((with_reducible apply go_index_nat); rfl; rfl; (with_reducible rfl); (intro; rfl); rfl; omega; (intro hlt)))
             | ((with_reducible (show evOp _ (.binOp _ _ _ _ _) _ _ _ _)) ; first | ((with_reducible apply go_cmp); rfl; rfl; rfl; rfl) | ((with_reducible apply go_add); rfl; rfl; rfl; omega))
             | ((with_reducible (show evOp _ (.call _) _ _ _ _)) ; first | ((with_reducible apply go_len); rfl; rfl) | ((with_reducible apply go_fn_int); rfl; (exact hb); rfl) | ((with_reducible apply go_fn_int); rfl; (exact ha); rfl) | ((with_reducible apply go_fn_bool); rfl; (exact hd); rfl))
             | (((with_reducible apply go_take_sl); rfl; rfl; (intro; rfl); rfl; omega))
             | (((with_reducible apply go_pick); rfl; rfl; rfl)))
           | ((with_reducible (show evOps _ _ _ _ _ _)); first
             | (with_reducible apply go_nil)
             | ((with_reducible apply go_run); rfl; rfl)
             | ((with_reducible apply go_pass); rfl; rfl; rfl)
             | ((with_reducible apply go_skip); rfl; rfl)
             | (((with_reducible apply go_guard); rfl) <;> (intro h; simp only [h, Bool.not_true, Bool.not_false]; (try with_reducible (refine ⟨rfl, ?_⟩)); try simp only [decide_eq_true_eq, decide_eq_false_iff_not, Bool.not_eq_true', Bool.not_eq_false', Bool.not_true, Bool.not_false] at h; try exact absurd trivial h))
             | ((with_reducible apply go_pre); rfl)
             | (with_reducible apply go_pre_nil)
             | ((with_reducible apply go_suf); rfl)
             | (with_reducible apply go_suf_nil))
           | ((with_reducible (show evG _ _ _ _ _)); first
             | (with_reducible apply go_seq)
             | (with_reducible apply go_region)
             | ((with_reducible apply go_cond_t); rfl; rfl)
             | (((with_reducible apply go_cond); rfl) <;> (intro h; simp only [h]; try simp only [decide_eq_true_eq, decide_eq_false_iff_not, Bool.not_eq_true', Bool.not_eq_false', Bool.not_true, Bool.not_false] at h; try exact absurd trivial h))
             | ((with_reducible apply go_order); kernel_rfl; rfl)
             | (with_reducible apply go_ret)
             | (with_reducible apply go_skipc)
             | (with_reducible apply go_block)
             | (with_reducible apply go_exit))
           | (with_reducible apply go_kseq)
           | (with_reducible apply go_ksuf)
           | (with_reducible apply go_kseq_ret)
           | (with_reducible apply go_kblock)
           | (with_reducible apply go_kblock_ret)
           | (with_reducible apply go_kblock_exit)
           | (with_reducible apply go_kseq_exit)
           | ((with_reducible apply end_int); rfl)
    all_goals first
      | exact absurd hlt (by omega)
      | (have he : lstErr s l i = bq := by rw [hs, if_pos (by assumption)]
         rw [hun, firstE_at (by omega) hC (by rw [he]; assumption), he])
      | (have he : lstErr s l i = 5 := by rw [hs, if_neg (by omega), if_pos (by first | (left; omega) | (right; assumption))]
         rw [hun, firstE_at (by omega) hC (by rw [he]; decide), he])
      | (have he : lstErr s l i = 0 := by rw [hs, if_neg (by omega), if_neg (by simp [*])]
         refine ⟨by omega, fun j hj => ?_, entails_eq (nx := 32) (k := 0) (ns := []) (ks := [9, 1, 3, 4]) [(0, 0)] rfl (by simp) (by kernel_rfl)⟩
         rcases Nat.lt_succ_iff_lt_or_eq.1 hj with h' | rfl
         · exact hC j h'
         · exact he)
      | trace_state
  · repeat' first
           | (with_reducible apply go_op)
           | (with_reducible apply go_next)
           | ((with_reducible (show evOp _ _ _ _ _ _)); first
             | ((with_reducible (show evOp _ (.move _) _ _ _ _)) ; first | ((with_reducible apply go_mv_int); rfl; rfl) | ((with_reducible apply go_mv_sl); rfl; rfl))
             | ((with_reducible apply go_as))
             | ((with_reducible (show evOp _ (.load _ _) _ _ _ _)) ; first | ((with_reducible apply go_ld_ptr); rfl; rfl; rfl) | ((with_reducible apply go_ld_agg); rfl; rfl; rfl; rfl))
             | (((with_reducible apply go_index_nat); rfl; rfl; (with_reducible rfl); (intro; rfl); rfl; omega; (intro hlt)))
             | (((with_reducible apply go_cmp); rfl; rfl; rfl; rfl))
             | (((with_reducible apply go_len); rfl; rfl)))
           | ((with_reducible (show evOps _ _ _ _ _ _)); first
             | (with_reducible apply go_nil)
             | ((with_reducible apply go_pre); rfl))
           | ((with_reducible (show evG _ _ _ _ _)); first
             | (with_reducible apply go_seq)
             | (with_reducible apply go_region)
             | (((with_reducible apply go_cond); rfl) <;> (intro h; simp only [h]; try simp only [decide_eq_true_eq, decide_eq_false_iff_not, Bool.not_eq_true', Bool.not_eq_false', Bool.not_true, Bool.not_false] at h; try exact absurd trivial h))
             | ((with_reducible apply go_order); kernel_rfl; rfl)
             | (with_reducible apply go_ret)
             | (with_reducible apply go_skipc)
             | (with_reducible apply go_block)
             | (with_reducible apply go_exit))
           | (with_reducible apply go_kseq)
           | (with_reducible apply go_kblock_exit)
           | (with_reducible apply go_kseq_exit)
           | ((with_reducible apply end_int); rfl)
    all_goals first
      | exact absurd hlt (by omega)
      | (rw [hun]; exact (firstE_zero fun j hj => hC j (by omega)).symm)
      | trace_state
def fewE (l : List Batch) (most : Int) : Bool := (l.all fun b => decide ((b.soil.size : Int) ≤ 40)) && decide ((l.length : Int) ≤ most)
theorem r_few (l : List Batch) (most : Int) (hl : l.length ≤ 9223372036854775807) : Contract Try.prog 8 [.sl (l.map encBatch), .int .i64 most] (.ret (.bool (fewE l most))) := by
  refine contract_of mix Try.func8 rfl rfl (by rw [Try.ntmps8]; exact Nat.le_of_ble_eq_true rfl) ?_; rw [Try.results8, Try.ntmps8]; simp only [argsE, Nat.reduceAdd]
  repeat' first
           | (with_reducible apply go_op)
           | (with_reducible apply go_next)
           | ((with_reducible (show evOp _ _ _ _ _ _)); first
             | ((with_reducible (show evOp _ (.move _) _ _ _ _)) ; first | ((with_reducible apply go_mv_int); rfl; rfl) | ((with_reducible apply go_mv_bool); rfl; rfl))
             | ((with_reducible apply go_as)))
           | ((with_reducible (show evOps _ _ _ _ _ _)); first
             | (with_reducible apply go_nil))
           | ((with_reducible (show evG _ _ _ _ _)); first
             | (with_reducible apply go_seq)
             | (with_reducible apply go_region)
             | (with_reducible apply go_block))
           | (with_reducible apply go_kseq)
  refine go_count (l.length) (fun i => ⟨[(5, .int .i64 i), (0, .sl (l.map encBatch)), (1, .int .i64 most)], [], 0, 23⟩) (fun i => ∀ j (hj : j < i) (hj' : j < l.length), (l[j].soil.size : Int) ≤ 40) (entails_eq (k := 0) (ns := []) (ks := [5, 0, 1]) [] rfl (by simp) rfl) (by omega) ?_
  intro i hi hC
  by_cases hlt : i < l.length
  · repeat' first
           | (with_reducible apply go_op)
           | (with_reducible apply go_next)
           | ((with_reducible (show evOp _ _ _ _ _ _)); first
             | ((with_reducible (show evOp _ (.move _) _ _ _ _)) ; first | ((with_reducible apply go_mv_int); rfl; rfl) | ((with_reducible apply go_mv_bool); rfl; rfl) | ((with_reducible apply go_mv_sl); rfl; rfl))
             | ((with_reducible apply go_as))
             | (((with_reducible apply go_load); rfl; rfl; rfl))
             | (((with_reducible apply go_fieldAddr); rfl; rfl))
             | (((with_reducible apply go_index_nat); rfl; rfl; (with_reducible rfl); (intro; rfl); rfl; omega; (intro hlt)))
             | ((with_reducible (show evOp _ (.binOp _ _ _ _ _) _ _ _ _)) ; first | ((with_reducible apply go_cmp); rfl; rfl; rfl; rfl) | ((with_reducible apply go_add); rfl; rfl; rfl; omega))
             | ((with_reducible (show evOp _ (.call _) _ _ _ _)) ; first | ((with_reducible apply go_len); rfl; rfl) | ((with_reducible apply go_len_str); rfl; rfl)))
           | ((with_reducible (show evOps _ _ _ _ _ _)); first
             | (with_reducible apply go_nil))
           | ((with_reducible (show evG _ _ _ _ _)); first
             | (with_reducible apply go_seq)
             | (with_reducible apply go_region)
             | (((with_reducible apply go_cond); rfl) <;> (intro h; simp only [h]; try simp only [decide_eq_true_eq, decide_eq_false_iff_not, Bool.not_eq_true', Bool.not_eq_false', Bool.not_true, Bool.not_false] at h; try exact absurd trivial h))
             | (with_reducible apply go_ret)
             | (with_reducible apply go_skipc)
             | (with_reducible apply go_block)
             | (with_reducible apply go_exit))
           | (with_reducible apply go_kseq)
           | (with_reducible apply go_kseq_ret)
           | (with_reducible apply go_kblock)
           | (with_reducible apply go_kblock_ret)
           | (with_reducible apply go_kblock_exit)
           | (with_reducible apply go_kseq_exit)
           | ((with_reducible apply end_bool); rfl)
    all_goals first
      | exact absurd hlt (by omega)
      | (symm
         have : ¬ ((l[i].soil.size : Int) ≤ 40) := by omega
         unfold fewE
         rw [Bool.and_eq_false_iff]
         exact .inl (List.all_eq_false.2 ⟨l[i], List.getElem_mem _, by simpa using this⟩))
      | (refine ⟨by omega, fun j hj hj' => ?_, entails_eq (k := 0) (ns := []) (ks := [5, 0, 1]) [] rfl (by simp) rfl⟩
         rcases Nat.lt_succ_iff_lt_or_eq.1 hj with h' | rfl
         · exact hC j h' hj'
         · omega)
      | trace_state
  · have ha : (l.all fun b => decide ((b.soil.size : Int) ≤ 40)) = true := List.all_eq_true.2 fun b hb => by
      obtain ⟨j, hj, rfl⟩ := List.mem_iff_getElem.1 hb
      exact decide_eq_true (hC j (by omega) hj)
    unfold fewE
    rw [ha]
    repeat' first
           | (with_reducible apply go_op)
           | (with_reducible apply go_next)
           | ((with_reducible (show evOp _ _ _ _ _ _)); first
             | ((with_reducible (show evOp _ (.move _) _ _ _ _)) ; first | ((with_reducible apply go_mv_int); rfl; rfl) | ((with_reducible apply go_mv_bool); rfl; rfl) | ((with_reducible apply go_mv_sl); rfl; rfl))
             | ((with_reducible apply go_as))
             | (((with_reducible apply go_load); rfl; rfl; rfl))
             | (((with_reducible apply go_fieldAddr); rfl; rfl))
             | (((with_reducible apply go_index_nat); rfl; rfl; (with_reducible rfl); (intro; rfl); rfl; omega; (intro hlt)))
             | ((with_reducible (show evOp _ (.binOp _ _ _ _ _) _ _ _ _)) ; first | ((with_reducible apply go_cmp); rfl; rfl; rfl; rfl) | ((with_reducible apply go_add); rfl; rfl; rfl; omega))
             | ((with_reducible (show evOp _ (.call _) _ _ _ _)) ; first | ((with_reducible apply go_len); rfl; rfl) | ((with_reducible apply go_len_str); rfl; rfl)))
           | ((with_reducible (show evOps _ _ _ _ _ _)); first
             | (with_reducible apply go_nil))
           | ((with_reducible (show evG _ _ _ _ _)); first
             | (with_reducible apply go_seq)
             | (with_reducible apply go_region)
             | (((with_reducible apply go_cond); rfl) <;> (intro h; simp only [h]; try simp only [decide_eq_true_eq, decide_eq_false_iff_not, Bool.not_eq_true', Bool.not_eq_false', Bool.not_true, Bool.not_false] at h; try exact absurd trivial h))
             | (with_reducible apply go_ret)
             | (with_reducible apply go_skipc)
             | (with_reducible apply go_block)
             | (with_reducible apply go_exit))
           | (with_reducible apply go_kseq)
           | (with_reducible apply go_kseq_ret)
           | (with_reducible apply go_kblock)
           | (with_reducible apply go_kblock_ret)
           | (with_reducible apply go_kblock_exit)
           | (with_reducible apply go_kseq_exit)
           | ((with_reducible apply end_bool); rfl)
    all_goals first
      | exact absurd hlt (by omega)
      | rfl
      | trace_state
def bigE (s : Yard) : Prop := (4 < s.pits.length ∧ s.pits.length ≤ 8) ∨ 12 < s.pits.length ∨ (4 < s.bulk.length ∧ s.bulk.length ≤ 20) ∨ 25 < s.bulk.length ∨ 30 < s.carry.length ∨ (8 < s.deps.length ∧ s.deps.length ≤ 200) ∨ 205 < s.deps.length
instance (s : Yard) : Decidable (bigE s) := inferInstanceAs (Decidable (_ ∨ _))
def smallE (s : Yard) : Bool := !decide (bigE s) && ((s.pits.all fun p => decide ((p.name.size : Int) ≤ 40 ∧ p.classes.length ≤ 12)) && ((s.bulk.all fun b => decide ((b.soil.size : Int) ≤ 40)) && (s.deps.all fun d => decide ((d.pit.size : Int) ≤ 40))))
end Go.Pv.Soil

open Go Go.Proofs Go.Pv
set_option maxHeartbeats 4000000
set_option maxRecDepth 100000
set_option linter.unusedSimpArgs false
set_option linter.unusedVariables false
namespace Go.Pv.Soil
theorem r_Small (s : Yard) (h1 : s.pits.length ≤ 9223372036854775807) (h2 : s.bulk.length ≤ 9223372036854775807) (h3 : s.deps.length ≤ 9223372036854775807) (h4 : s.carry.length ≤ 9223372036854775807) : Contract Try.prog 7 [.agg (encYard s)] (.ret (.bool (smallE s))) := by
  by_cases hbig : bigE s
  · refine contract_of mix Try.func7 rfl rfl (by rw [Try.ntmps7]; exact Nat.le_of_ble_eq_true rfl) ?_; rw [Try.results7, Try.ntmps7]; simp only [argsE, Nat.reduceAdd]
    repeat' first
           | (with_reducible apply go_op)
           | (with_reducible apply go_next)
           | ((with_reducible (show evOp _ _ _ _ _ _)); first
             | ((with_reducible (show evOp _ (.move _) _ _ _ _)) ; first | ((with_reducible apply go_mv_int); rfl; rfl) | ((with_reducible apply go_mv_bool); rfl; rfl))
             | ((with_reducible apply go_as))
             | (((with_reducible apply go_load_own); rfl; rfl; rfl; rfl))
             | (((with_reducible apply go_fieldAddr_own); rfl; rfl; rfl))
             | (((with_reducible apply go_cmp); rfl; rfl; rfl; rfl))
             | (((with_reducible apply go_len); rfl; rfl))
             | (((with_reducible apply go_pick); rfl; rfl; rfl))
             | (((with_reducible apply go_bx_agg); rfl; rfl; (exact Nat.le_of_ble_eq_true rfl); rfl; rfl)))
           | ((with_reducible (show evOps _ _ _ _ _ _)); first
             | (with_reducible apply go_nil)
             | ((with_reducible apply go_run); rfl; rfl)
             | ((with_reducible apply go_pass); rfl; rfl; rfl)
             | ((with_reducible apply go_skip); rfl; rfl)
             | (((with_reducible apply go_guard); rfl) <;> (intro h; simp only [h, Bool.not_true, Bool.not_false]; (try with_reducible (refine ⟨rfl, ?_⟩)); try simp only [decide_eq_true_eq, decide_eq_false_iff_not, Bool.not_eq_true', Bool.not_eq_false', Bool.not_true, Bool.not_false] at h; try exact absurd trivial h)))
           | ((with_reducible (show evG _ _ _ _ _)); first
             | (with_reducible apply go_seq)
             | (with_reducible apply go_region)
             | ((with_reducible apply go_cond_t); rfl; rfl)
             | (((with_reducible apply go_cond); rfl) <;> (intro h; simp only [h]; try simp only [decide_eq_true_eq, decide_eq_false_iff_not, Bool.not_eq_true', Bool.not_eq_false', Bool.not_true, Bool.not_false] at h; try exact absurd trivial h))
             | (with_reducible apply go_ret)
             | (with_reducible apply go_skipc)
             | (with_reducible apply go_block))
           | (with_reducible apply go_kseq)
           | (with_reducible apply go_kseq_ret)
           | ((with_reducible apply end_bool); rfl)
    all_goals first
      | (simp only [smallE, hbig, decide_true, Bool.not_true, Bool.false_and]; done)
      | (exfalso; unfold bigE at hbig; omega)
  refine contract_of mix Try.func7 rfl rfl (by rw [Try.ntmps7]; exact Nat.le_of_ble_eq_true rfl) ?_; rw [Try.results7, Try.ntmps7]; simp only [argsE, Nat.reduceAdd]
  refine go_seq ?_
  repeat' first
           | (with_reducible apply go_op)
           | (with_reducible apply go_next)
           | ((with_reducible (show evOp _ _ _ _ _ _)); first
             | (((with_reducible apply go_mv_bool); rfl; rfl))
             | ((with_reducible apply go_as))
             | (((with_reducible apply go_bx_agg); rfl; rfl; (exact Nat.le_of_ble_eq_true rfl); rfl; rfl)))
           | ((with_reducible (show evOps _ _ _ _ _ _)); first
             | (with_reducible apply go_nil))
           | ((with_reducible (show evG _ _ _ _ _)); first
             | (with_reducible apply go_region))
           | (with_reducible apply go_kseq)
  refine Or.inr ⟨⟨[(1, .op 0 0 0)], [(0, ⟨4, true, [encYard s]⟩)], 32, 119⟩, ?_, ?_⟩
  · repeat' first
           | (with_reducible apply go_op)
           | (with_reducible apply go_next)
           | ((with_reducible (show evOp _ _ _ _ _ _)); first
             | (((with_reducible apply go_mv_bool); rfl; rfl))
             | ((with_reducible apply go_as))
             | (((with_reducible apply go_load_own); rfl; rfl; rfl; rfl))
             | (((with_reducible apply go_fieldAddr_own); rfl; rfl; rfl))
             | (((with_reducible apply go_cmp); rfl; rfl; rfl; rfl))
             | (((with_reducible apply go_len); rfl; rfl))
             | (((with_reducible apply go_pick); rfl; rfl; rfl)))
           | ((with_reducible (show evOps _ _ _ _ _ _)); first
             | (with_reducible apply go_nil)
             | ((with_reducible apply go_run); rfl; rfl)
             | ((with_reducible apply go_pass); rfl; rfl; rfl)
             | ((with_reducible apply go_skip); rfl; rfl)
             | (((with_reducible apply go_guard); rfl) <;> (intro h; simp only [h, Bool.not_true, Bool.not_false]; (try with_reducible (refine ⟨rfl, ?_⟩)); try simp only [decide_eq_true_eq, decide_eq_false_iff_not, Bool.not_eq_true', Bool.not_eq_false', Bool.not_true, Bool.not_false] at h; try exact absurd trivial h)))
           | ((with_reducible (show evG _ _ _ _ _)); first
             | (with_reducible apply go_seq)
             | (with_reducible apply go_region)
             | ((with_reducible apply go_cond_t); rfl; rfl)
             | (((with_reducible apply go_cond); rfl) <;> (intro h; simp only [h]; try simp only [decide_eq_true_eq, decide_eq_false_iff_not, Bool.not_eq_true', Bool.not_eq_false', Bool.not_true, Bool.not_false] at h; try exact absurd trivial h))
             | (with_reducible apply go_ret)
             | (with_reducible apply go_skipc))
           | (with_reducible apply go_kseq)
           | (with_reducible apply go_kseq_ret)
           | ((with_reducible apply end_bool); rfl)
    all_goals first
      | (exfalso; unfold bigE at hbig; omega)
      | exact entails_eq (nx := 32) (k := 0) (ns := []) (ks := [1]) [(0, 0)] rfl (by simp) (by kernel_rfl)
      | trace_state
  repeat' first
           | (with_reducible apply go_op)
           | (with_reducible apply go_next)
           | ((with_reducible (show evOp _ _ _ _ _ _)); first
             | (((with_reducible apply go_mv_int); rfl; rfl))
             | ((with_reducible apply go_as)))
           | ((with_reducible (show evOps _ _ _ _ _ _)); first
             | (with_reducible apply go_nil))
           | ((with_reducible (show evG _ _ _ _ _)); first
             | (with_reducible apply go_seq)
             | (with_reducible apply go_region)
             | (with_reducible apply go_block))
           | (with_reducible apply go_kseq)
  refine go_count s.pits.length (fun i => ⟨[(3, .int .i64 i), (1, .op 0 0 0)], [(0, ⟨4, true, [encYard s]⟩)], 32, 119⟩) (fun i => ∀ j (hj : j < i) (hj' : j < s.pits.length), (s.pits[j].name.size : Int) ≤ 40 ∧ s.pits[j].classes.length ≤ 12) (entails_eq (nx := 32) (k := 0) (ns := []) (ks := [3, 1]) [(0, 0)] rfl (by simp) (by kernel_rfl)) (by omega) ?_
  intro i hi hC
  by_cases hlt : i < s.pits.length
  · repeat' first
           | (with_reducible apply go_op)
           | (with_reducible apply go_next)
           | ((with_reducible (show evOp _ _ _ _ _ _)); first
             | ((with_reducible (show evOp _ (.move _) _ _ _ _)) ; first | ((with_reducible apply go_mv_int); rfl; rfl) | ((with_reducible apply go_mv_bool); rfl; rfl))
             | ((with_reducible apply go_as))
             | ((with_reducible (show evOp _ (.load _ _) _ _ _ _)) ; first | ((with_reducible apply go_load); rfl; rfl; rfl) | ((with_reducible apply go_load_own); rfl; rfl; rfl; rfl))
             | ((with_reducible (show evOp _ (.fieldAddr _ _ _) _ _ _ _)) ; first | ((with_reducible apply go_fieldAddr); rfl; rfl) | ((with_reducible apply go_fieldAddr_own); rfl; rfl; rfl))
             | (((with_reducible apply go_index_nat); rfl; rfl; (with_reducible rfl); (intro; rfl); rfl; omega; (intro hlt)))
             | ((with_reducible (show evOp _ (.binOp _ _ _ _ _) _ _ _ _)) ; first | ((with_reducible apply go_cmp); rfl; rfl; rfl; rfl) | ((with_reducible apply go_add); rfl; rfl; rfl; omega))
             | ((with_reducible (show evOp _ (.call _) _ _ _ _)) ; first | ((with_reducible apply go_len); rfl; rfl) | ((with_reducible apply go_len_str); rfl; rfl))
             | (((with_reducible apply go_pick); rfl; rfl; rfl)))
           | ((with_reducible (show evOps _ _ _ _ _ _)); first
             | (with_reducible apply go_nil)
             | ((with_reducible apply go_run); rfl; rfl)
             | ((with_reducible apply go_pass); rfl; rfl; rfl)
             | (((with_reducible apply go_guard); rfl) <;> (intro h; simp only [h, Bool.not_true, Bool.not_false]; (try with_reducible (refine ⟨rfl, ?_⟩)); try simp only [decide_eq_true_eq, decide_eq_false_iff_not, Bool.not_eq_true', Bool.not_eq_false', Bool.not_true, Bool.not_false] at h; try exact absurd trivial h)))
           | ((with_reducible (show evG _ _ _ _ _)); first
             | (with_reducible apply go_seq)
             | (with_reducible apply go_region)
             | ((with_reducible apply go_cond_t); rfl; rfl)
             | (((with_reducible apply go_cond); rfl) <;> (intro h; simp only [h]; try simp only [decide_eq_true_eq, decide_eq_false_iff_not, Bool.not_eq_true', Bool.not_eq_false', Bool.not_true, Bool.not_false] at h; try exact absurd trivial h))
             | (with_reducible apply go_ret)
             | (with_reducible apply go_skipc)
             | (with_reducible apply go_block)
             | (with_reducible apply go_exit))
           | (with_reducible apply go_kseq)
           | (with_reducible apply go_kseq_ret)
           | (with_reducible apply go_kblock)
           | (with_reducible apply go_kblock_ret)
           | (with_reducible apply go_kblock_exit)
           | (with_reducible apply go_kseq_exit)
           | ((with_reducible apply end_bool); rfl)
    all_goals first
      | exact absurd hlt (by omega)
      | (have hne : ¬ ((s.pits[i].name.size : Int) ≤ 40 ∧ s.pits[i].classes.length ≤ 12) := by omega
         have hf := (List.all_eq_false.2 ⟨s.pits[i], List.getElem_mem _, by rw [decide_eq_false hne]; simp⟩ : (s.pits.all fun p => decide ((p.name.size : Int) ≤ 40 ∧ p.classes.length ≤ 12)) = false)
         unfold smallE; rw [hf]; simp only [Bool.false_and, Bool.and_false]; done)
      | (refine ⟨by omega, fun j hj hj' => ?_, entails_eq (nx := 32) (k := 0) (ns := []) (ks := [3, 1]) [(0, 0)] rfl (by simp) (by kernel_rfl)⟩
         rcases Nat.lt_succ_iff_lt_or_eq.1 hj with h' | rfl
         · exact hC j h' hj'
         · omega)
      | trace_state
  repeat' first
           | (with_reducible apply go_op)
           | (with_reducible apply go_next)
           | ((with_reducible (show evOp _ _ _ _ _ _)); first
             | ((with_reducible (show evOp _ (.move _) _ _ _ _)) ; first | ((with_reducible apply go_mv_int); rfl; rfl) | ((with_reducible apply go_mv_bool); rfl; rfl))
             | ((with_reducible apply go_as))
             | ((with_reducible (show evOp _ (.load _ _) _ _ _ _)) ; first | ((with_reducible apply go_load); rfl; rfl; rfl) | ((with_reducible apply go_load_own); rfl; rfl; rfl; rfl))
             | ((with_reducible (show evOp _ (.fieldAddr _ _ _) _ _ _ _)) ; first | ((with_reducible apply go_fieldAddr); rfl; rfl) | ((with_reducible apply go_fieldAddr_own); rfl; rfl; rfl))
             | (((with_reducible apply go_index_nat); rfl; rfl; (with_reducible rfl); (intro; rfl); rfl; omega; (intro hlt)))
             | ((with_reducible (show evOp _ (.binOp _ _ _ _ _) _ _ _ _)) ; first | ((with_reducible apply go_cmp); rfl; rfl; rfl; rfl) | ((with_reducible apply go_add); rfl; rfl; rfl; omega))
             | ((with_reducible (show evOp _ (.call _) _ _ _ _)) ; first | ((with_reducible apply go_len); rfl; rfl) | ((with_reducible apply go_len_str); rfl; rfl))
             | (((with_reducible apply go_pick); rfl; rfl; rfl)))
           | ((with_reducible (show evOps _ _ _ _ _ _)); first
             | (with_reducible apply go_nil)
             | ((with_reducible apply go_run); rfl; rfl)
             | ((with_reducible apply go_pass); rfl; rfl; rfl)
             | (((with_reducible apply go_guard); rfl) <;> (intro h; simp only [h, Bool.not_true, Bool.not_false]; (try with_reducible (refine ⟨rfl, ?_⟩)); try simp only [decide_eq_true_eq, decide_eq_false_iff_not, Bool.not_eq_true', Bool.not_eq_false', Bool.not_true, Bool.not_false] at h; try exact absurd trivial h)))
           | ((with_reducible (show evG _ _ _ _ _)); first
             | (with_reducible apply go_seq)
             | (with_reducible apply go_region)
             | ((with_reducible apply go_cond_t); rfl; rfl)
             | (((with_reducible apply go_cond); rfl) <;> (intro h; simp only [h]; try simp only [decide_eq_true_eq, decide_eq_false_iff_not, Bool.not_eq_true', Bool.not_eq_false', Bool.not_true, Bool.not_false] at h; try exact absurd trivial h))
             | (with_reducible apply go_ret)
             | (with_reducible apply go_skipc)
             | (with_reducible apply go_block)
             | (with_reducible apply go_exit))
           | (with_reducible apply go_kseq)
           | (with_reducible apply go_kseq_ret)
           | (with_reducible apply go_kblock)
           | (with_reducible apply go_kblock_ret)
           | (with_reducible apply go_kblock_exit)
           | (with_reducible apply go_kseq_exit)
           | ((with_reducible apply end_bool); rfl)
  all_goals try exact absurd hlt (by omega)
  refine go_count s.bulk.length (fun i => ⟨[(4, .int .i64 i), (1, .op 0 0 0)], [(0, ⟨4, true, [encYard s]⟩)], 32, 119⟩) (fun i => ∀ j (hj : j < i) (hj' : j < s.bulk.length), (s.bulk[j].soil.size : Int) ≤ 40) (entails_eq (nx := 32) (k := 0) (ns := []) (ks := [4, 1]) [(0, 0)] rfl (by simp) (by kernel_rfl)) (by omega) ?_
  intro i hi hD
  by_cases hlt : i < s.bulk.length
  · repeat' first
           | (with_reducible apply go_op)
           | (with_reducible apply go_next)
           | ((with_reducible (show evOp _ _ _ _ _ _)); first
             | ((with_reducible (show evOp _ (.move _) _ _ _ _)) ; first | ((with_reducible apply go_mv_int); rfl; rfl) | ((with_reducible apply go_mv_bool); rfl; rfl))
             | ((with_reducible apply go_as))
             | ((with_reducible (show evOp _ (.load _ _) _ _ _ _)) ; first | ((with_reducible apply go_load); rfl; rfl; rfl) | ((with_reducible apply go_load_own); rfl; rfl; rfl; rfl))
             | ((with_reducible (show evOp _ (.fieldAddr _ _ _) _ _ _ _)) ; first | ((with_reducible apply go_fieldAddr); rfl; rfl) | ((with_reducible apply go_fieldAddr_own); rfl; rfl; rfl))
             | (((with_reducible apply go_index_nat); rfl; rfl; (with_reducible rfl); (intro; rfl); rfl; omega; (intro hlt)))
             | ((with_reducible (show evOp _ (.binOp _ _ _ _ _) _ _ _ _)) ; first | ((with_reducible apply go_cmp); rfl; rfl; rfl; rfl) | ((with_reducible apply go_add); rfl; rfl; rfl; omega))
             | ((with_reducible (show evOp _ (.call _) _ _ _ _)) ; first | ((with_reducible apply go_len); rfl; rfl) | ((with_reducible apply go_len_str); rfl; rfl)))
           | ((with_reducible (show evOps _ _ _ _ _ _)); first
             | (with_reducible apply go_nil))
           | ((with_reducible (show evG _ _ _ _ _)); first
             | (with_reducible apply go_seq)
             | (with_reducible apply go_region)
             | (((with_reducible apply go_cond); rfl) <;> (intro h; simp only [h]; try simp only [decide_eq_true_eq, decide_eq_false_iff_not, Bool.not_eq_true', Bool.not_eq_false', Bool.not_true, Bool.not_false] at h; try exact absurd trivial h))
             | (with_reducible apply go_ret)
             | (with_reducible apply go_skipc)
             | (with_reducible apply go_block)
             | (with_reducible apply go_exit))
           | (with_reducible apply go_kseq)
           | (with_reducible apply go_kseq_ret)
           | (with_reducible apply go_kblock)
           | (with_reducible apply go_kblock_ret)
           | (with_reducible apply go_kblock_exit)
           | (with_reducible apply go_kseq_exit)
           | ((with_reducible apply end_bool); rfl)
    all_goals first
      | exact absurd hlt (by omega)
      | (have hne : ¬ ((s.bulk[i].soil.size : Int) ≤ 40) := by omega
         have hf := (List.all_eq_false.2 ⟨s.bulk[i], List.getElem_mem _, by rw [decide_eq_false hne]; simp⟩ : (s.bulk.all fun b => decide ((b.soil.size : Int) ≤ 40)) = false)
         unfold smallE; rw [hf]; simp only [Bool.false_and, Bool.and_false]; done)
      | (refine ⟨by omega, fun j hj hj' => ?_, entails_eq (nx := 32) (k := 0) (ns := []) (ks := [4, 1]) [(0, 0)] rfl (by simp) (by kernel_rfl)⟩
         rcases Nat.lt_succ_iff_lt_or_eq.1 hj with h' | rfl
         · exact hD j h' hj'
         · omega)
      | trace_state
  repeat' first
           | (with_reducible apply go_op)
           | (with_reducible apply go_next)
           | ((with_reducible (show evOp _ _ _ _ _ _)); first
             | ((with_reducible (show evOp _ (.move _) _ _ _ _)) ; first | ((with_reducible apply go_mv_int); rfl; rfl) | ((with_reducible apply go_mv_bool); rfl; rfl))
             | ((with_reducible apply go_as))
             | ((with_reducible (show evOp _ (.load _ _) _ _ _ _)) ; first | ((with_reducible apply go_load); rfl; rfl; rfl) | ((with_reducible apply go_load_own); rfl; rfl; rfl; rfl))
             | ((with_reducible (show evOp _ (.fieldAddr _ _ _) _ _ _ _)) ; first | ((with_reducible apply go_fieldAddr); rfl; rfl) | ((with_reducible apply go_fieldAddr_own); rfl; rfl; rfl))
             | (((with_reducible apply go_index_nat); rfl; rfl; (with_reducible rfl); (intro; rfl); rfl; omega; (intro hlt)))
             | ((with_reducible (show evOp _ (.binOp _ _ _ _ _) _ _ _ _)) ; first | ((with_reducible apply go_cmp); rfl; rfl; rfl; rfl) | ((with_reducible apply go_add); rfl; rfl; rfl; omega))
             | ((with_reducible (show evOp _ (.call _) _ _ _ _)) ; first | ((with_reducible apply go_len); rfl; rfl) | ((with_reducible apply go_len_str); rfl; rfl)))
           | ((with_reducible (show evOps _ _ _ _ _ _)); first
             | (with_reducible apply go_nil))
           | ((with_reducible (show evG _ _ _ _ _)); first
             | (with_reducible apply go_seq)
             | (with_reducible apply go_region)
             | (((with_reducible apply go_cond); rfl) <;> (intro h; simp only [h]; try simp only [decide_eq_true_eq, decide_eq_false_iff_not, Bool.not_eq_true', Bool.not_eq_false', Bool.not_true, Bool.not_false] at h; try exact absurd trivial h))
             | (with_reducible apply go_ret)
             | (with_reducible apply go_skipc)
             | (with_reducible apply go_block)
             | (with_reducible apply go_exit))
           | (with_reducible apply go_kseq)
           | (with_reducible apply go_kseq_ret)
           | (with_reducible apply go_kblock)
           | (with_reducible apply go_kblock_ret)
           | (with_reducible apply go_kblock_exit)
           | (with_reducible apply go_kseq_exit)
           | ((with_reducible apply end_bool); rfl)
  all_goals try exact absurd hlt (by omega)
  refine go_count s.deps.length (fun i => ⟨[(5, .int .i64 i), (1, .op 0 0 0)], [(0, ⟨4, true, [encYard s]⟩)], 32, 119⟩) (fun i => ∀ j (hj : j < i) (hj' : j < s.deps.length), (s.deps[j].pit.size : Int) ≤ 40) (entails_eq (nx := 32) (k := 0) (ns := []) (ks := [5, 1]) [(0, 0)] rfl (by simp) (by kernel_rfl)) (by omega) ?_
  intro i hi hE
  by_cases hlt : i < s.deps.length
  · repeat' first
           | (with_reducible apply go_op)
           | (with_reducible apply go_next)
           | ((with_reducible (show evOp _ _ _ _ _ _)); first
             | ((with_reducible (show evOp _ (.move _) _ _ _ _)) ; first | ((with_reducible apply go_mv_int); rfl; rfl) | ((with_reducible apply go_mv_bool); rfl; rfl))
             | ((with_reducible apply go_as))
             | ((with_reducible (show evOp _ (.load _ _) _ _ _ _)) ; first | ((with_reducible apply go_load); rfl; rfl; rfl) | ((with_reducible apply go_load_own); rfl; rfl; rfl; rfl))
             | ((with_reducible (show evOp _ (.fieldAddr _ _ _) _ _ _ _)) ; first | ((with_reducible apply go_fieldAddr); rfl; rfl) | ((with_reducible apply go_fieldAddr_own); rfl; rfl; rfl))
             | (((with_reducible apply go_index_nat); rfl; rfl; (with_reducible rfl); (intro; rfl); rfl; omega; (intro hlt)))
             | ((with_reducible (show evOp _ (.binOp _ _ _ _ _) _ _ _ _)) ; first | ((with_reducible apply go_cmp); rfl; rfl; rfl; rfl) | ((with_reducible apply go_add); rfl; rfl; rfl; omega))
             | ((with_reducible (show evOp _ (.call _) _ _ _ _)) ; first | ((with_reducible apply go_len); rfl; rfl) | ((with_reducible apply go_len_str); rfl; rfl)))
           | ((with_reducible (show evOps _ _ _ _ _ _)); first
             | (with_reducible apply go_nil))
           | ((with_reducible (show evG _ _ _ _ _)); first
             | (with_reducible apply go_seq)
             | (with_reducible apply go_region)
             | (((with_reducible apply go_cond); rfl) <;> (intro h; simp only [h]; try simp only [decide_eq_true_eq, decide_eq_false_iff_not, Bool.not_eq_true', Bool.not_eq_false', Bool.not_true, Bool.not_false] at h; try exact absurd trivial h))
             | (with_reducible apply go_ret)
             | (with_reducible apply go_skipc)
             | (with_reducible apply go_block)
             | (with_reducible apply go_exit))
           | (with_reducible apply go_kseq)
           | (with_reducible apply go_kseq_ret)
           | (with_reducible apply go_kblock)
           | (with_reducible apply go_kblock_ret)
           | (with_reducible apply go_kblock_exit)
           | (with_reducible apply go_kseq_exit)
           | ((with_reducible apply end_bool); rfl)
    all_goals first
      | exact absurd hlt (by omega)
      | (have hne : ¬ ((s.deps[i].pit.size : Int) ≤ 40) := by omega
         have hf := (List.all_eq_false.2 ⟨s.deps[i], List.getElem_mem _, by rw [decide_eq_false hne]; simp⟩ : (s.deps.all fun d => decide ((d.pit.size : Int) ≤ 40)) = false)
         unfold smallE; rw [hf]; simp only [Bool.false_and, Bool.and_false]; done)
      | (refine ⟨by omega, fun j hj hj' => ?_, entails_eq (nx := 32) (k := 0) (ns := []) (ks := [5, 1]) [(0, 0)] rfl (by simp) (by kernel_rfl)⟩
         rcases Nat.lt_succ_iff_lt_or_eq.1 hj with h' | rfl
         · exact hE j h' hj'
         · omega)
      | trace_state
  have a1 : (s.pits.all fun p => decide ((p.name.size : Int) ≤ 40 ∧ p.classes.length ≤ 12)) = true := List.all_eq_true.2 fun b hb => by
    obtain ⟨j, hj, rfl⟩ := List.mem_iff_getElem.1 hb
    exact decide_eq_true (hC j (by omega) hj)
  have a2 : (s.bulk.all fun b => decide ((b.soil.size : Int) ≤ 40)) = true := List.all_eq_true.2 fun b hb => by
    obtain ⟨j, hj, rfl⟩ := List.mem_iff_getElem.1 hb
    exact decide_eq_true (hD j (by omega) hj)
  have a3 : (s.deps.all fun d => decide ((d.pit.size : Int) ≤ 40)) = true := List.all_eq_true.2 fun b hb => by
    obtain ⟨j, hj, rfl⟩ := List.mem_iff_getElem.1 hb
    exact decide_eq_true (hE j (by omega) hj)
  unfold smallE
  rw [a1, a2, a3, decide_eq_false hbig]
  repeat' first
           | (with_reducible apply go_op)
           | (with_reducible apply go_next)
           | ((with_reducible (show evOp _ _ _ _ _ _)); first
             | ((with_reducible (show evOp _ (.move _) _ _ _ _)) ; first | ((with_reducible apply go_mv_int); rfl; rfl) | ((with_reducible apply go_mv_bool); rfl; rfl))
             | ((with_reducible apply go_as))
             | ((with_reducible (show evOp _ (.load _ _) _ _ _ _)) ; first | ((with_reducible apply go_load); rfl; rfl; rfl) | ((with_reducible apply go_load_own); rfl; rfl; rfl; rfl))
             | ((with_reducible (show evOp _ (.fieldAddr _ _ _) _ _ _ _)) ; first | ((with_reducible apply go_fieldAddr); rfl; rfl) | ((with_reducible apply go_fieldAddr_own); rfl; rfl; rfl))
             | (((with_reducible apply go_index_nat); rfl; rfl; (with_reducible rfl); (intro; rfl); rfl; omega; (intro hlt)))
             | ((with_reducible (show evOp _ (.binOp _ _ _ _ _) _ _ _ _)) ; first | ((with_reducible apply go_cmp); rfl; rfl; rfl; rfl) | ((with_reducible apply go_add); rfl; rfl; rfl; omega))
             | ((with_reducible (show evOp _ (.call _) _ _ _ _)) ; first | ((with_reducible apply go_len); rfl; rfl) | ((with_reducible apply go_len_str); rfl; rfl)))
           | ((with_reducible (show evOps _ _ _ _ _ _)); first
             | (with_reducible apply go_nil))
           | ((with_reducible (show evG _ _ _ _ _)); first
             | (with_reducible apply go_seq)
             | (with_reducible apply go_region)
             | (((with_reducible apply go_cond); rfl) <;> (intro h; simp only [h]; try simp only [decide_eq_true_eq, decide_eq_false_iff_not, Bool.not_eq_true', Bool.not_eq_false', Bool.not_true, Bool.not_false] at h; try exact absurd trivial h))
             | (with_reducible apply go_ret)
             | (with_reducible apply go_skipc)
             | (with_reducible apply go_block)
             | (with_reducible apply go_exit))
           | (with_reducible apply go_kseq)
           | (with_reducible apply go_kseq_ret)
           | (with_reducible apply go_kblock)
           | (with_reducible apply go_kblock_ret)
           | (with_reducible apply go_kblock_exit)
           | (with_reducible apply go_kseq_exit)
           | ((with_reducible apply end_bool); rfl)
  all_goals first
    | exact absurd hlt (by omega)
    | rfl
    | trace_state
end Go.Pv.Soil

open Go Go.Proofs Go.Pv
set_option maxHeartbeats 4000000
set_option maxRecDepth 100000
set_option linter.unusedSimpArgs false
set_option linter.unusedVariables false
namespace Go.Pv.Soil
theorem takA_app {l : List Dep} {d : Dep} {n : ByteArray} : ∀ i, i ≤ l.length → takA (l ++ [d]) n i = takA l n i
  | 0, _ => rfl
  | i + 1, h => by
    have ih := takA_app (l := l) (d := d) (n := n) i (by omega)
    simp only [takA, ih, List.getElem?_append_left (show i < l.length by omega)]
theorem takE_app {l : List Dep} {d : Dep} {n : ByteArray} : takE (l ++ [d]) n = takE l n + if d.pit = n then d.vol else 0 := by
  unfold takE
  rw [List.length_append, List.length_singleton, takA_at (by simp)]
  rw [takA_app _ (Nat.le_refl _)]
  simp
theorem plcA_app {l : List Dep} {d : Dep} {n : Int} : ∀ i, i ≤ l.length → plcA (l ++ [d]) n i = plcA l n i
  | 0, _ => rfl
  | i + 1, h => by
    have ih := plcA_app (l := l) (d := d) (n := n) i (by omega)
    simp only [plcA, ih, List.getElem?_append_left (show i < l.length by omega)]
theorem plcE_app {l : List Dep} {d : Dep} {n : Int} : plcA (l ++ [d]) n (l ++ [d]).length = plcA l n l.length + if d.batch = n then d.vol else 0 := by
  rw [List.length_append, List.length_singleton, plcA_at (by simp)]
  rw [plcA_app _ (Nat.le_refl _)]
  simp
theorem plcA_none {l : List Dep} {n : Int} (h : ∀ d ∈ l, d.batch ≠ n) : ∀ i, i ≤ l.length → plcA l n i = 0
  | 0, _ => rfl
  | i + 1, hi => by
    rw [plcA_at (by omega), plcA_none h i (by omega), if_neg (h _ (List.getElem_mem _))]
    rfl
theorem depB_false {s : Yard} {n : Int} (h : depB s n = false) : ∀ d ∈ s.deps, d.batch ≠ n := fun d hd => by
  simpa using List.any_eq_false.1 h d hd
theorem name_inj {s : Yard} (hs : OkYard s) {i j : Nat} (hi : i < s.pits.length) (hj : j < s.pits.length) (h : s.pits[i].name = s.pits[j].name) : i = j := by
  rcases Nat.lt_trichotomy i j with h1 | h1 | h1
  · exact absurd h (List.pairwise_iff_getElem.1 hs.pd i j hi hj h1)
  · exact h1
  · exact absurd h.symm (List.pairwise_iff_getElem.1 hs.pd j i hj hi h1)
theorem pitI_self {s : Yard} (hs : OkYard s) {j : Nat} (hj : j < s.pits.length) : pitI s s.pits[j].name = j := by
  unfold pitI
  refine idxOf_some hj (by simp) fun i hi => ?_
  have : s.pits[i].name ≠ s.pits[j].name := fun h => by have := name_inj hs (by omega) hj h; omega
  simpa using this
theorem placeY_ok {s : Yard} {b : Batch} {k j : Nat} (hs : OkYard s) (hb : OkBatch s b) (hkl : k < s.bulk.length) (hkc : k < s.carry.length) (hnd : depB s b.number = false) (hj : j < s.pits.length)
    (hr : refE s s.pits[j] b.cls (volE b s.bulk[k] s.carry[k]) = 0) (h200 : s.deps.length < 200) : OkYard (placeY s b s.pits[j].name k s.bulk[k] s.carry[k]) := by
  have hv := sumE_bd hb.bed hb.over (hs.bok _ (List.getElem_mem hkl)).1 (hs.cok k hkc hkl)
  have hroom : volE b s.bulk[k] s.carry[k] ≤ capE s.pits[j] - takE s.deps s.pits[j].name := by
    unfold refE at hr
    split at hr
    · simp at hr
    · split at hr
      · simp at hr
      · omega
  have hdk : ∀ d ∈ s.deps, depOK d = true := fun d hd => (hs.dok d hd).1
  have htk := takA_bd hdk (n := s.pits[j].name) s.deps.length (Nat.le_refl _)
  have hcap : capE s.pits[j] ≤ 40000000000000 := by
    have h := of_decide_eq_true (hs.pok s.pits[j] (List.getElem_mem _)).1
    have := Int.mul_le_mul h.1.2 (show s.pits[j].high - s.pits[j].low ≤ 40000 by omega) (by omega) (by omega)
    unfold capE; omega
  have htk' : 0 ≤ takE s.deps s.pits[j].name := htk.1
  have hpit : ∀ n, pitI (placeY s b s.pits[j].name k s.bulk[k] s.carry[k]) n = pitI s n := fun n => rfl
  refine ⟨hs.p8, hs.pok, hs.pd, hs.b20, hs.bok, hs.bd, by simpa [placeY] using hs.cl, fun i hi hi' => ?_, by simp only [placeY, List.length_append, List.length_singleton]; omega, fun d hd => ?_, ?_, fun p hp => ?_⟩
  · have hi2 : i < s.carry.length := by simpa [placeY] using hi
    have hi3 : i < s.bulk.length := hi'
    have hi4 : i < (s.carry.set k (carE b s.bulk[k] s.carry[k])).length := by simpa using hi2
    show 0 ≤ (s.carry.set k (carE b s.bulk[k] s.carry[k]))[i]'hi4 ∧ (s.carry.set k (carE b s.bulk[k] s.carry[k]))[i]'hi4 ≤ s.bulk[i].den - 1
    simp only [List.getElem_set]
    split
    · rename_i e; subst e; omega
    · exact hs.cok i hi2 hi3
  · rcases List.mem_append.1 hd with hd | hd
    · exact ⟨(hs.dok d hd).1, (hs.dok d hd).2⟩
    · rw [List.mem_singleton] at hd
      subst hd
      refine ⟨decide_eq_true ⟨hb.num, by dsimp only; omega, by dsimp only; omega⟩, ?_⟩
      rw [hpit]
      show 0 ≤ pitI s s.pits[j].name
      rw [pitI_self hs hj]; omega
  · refine List.pairwise_append.2 ⟨hs.dd, by simp, fun x hx y hy => ?_⟩
    rw [List.mem_singleton] at hy
    subst hy
    exact depB_false hnd x hx
  · show 0 ≤ capE p - takE (s.deps ++ [⟨b.number, s.pits[j].name, volE b s.bulk[k] s.carry[k]⟩]) p.name
    rw [takE_app]
    have hp' : p ∈ s.pits := hp
    have h0 := hs.room p hp'
    clear hp
    obtain ⟨m, hm, rfl⟩ := List.mem_iff_getElem.1 hp'
    split
    · rename_i e
      have := name_inj hs hj hm e
      subst this
      dsimp only; omega
    · omega
/-- Batches placed one after another: the yard, those that were placed, what they hold. -/
structure Kst where
  x : Yard
  placed : List Batch
  sum : Int
def bestS (x : Yard) (b : Batch) (v : Int) : Int := bestE x.pits (fun p => decide (refE x p b.cls v = 0)) x.pits.length
def stepS (st : Kst) (b : Batch) : Kst :=
  match st.x.bulk[(bulkI st.x b.soil).toNat]?, st.x.carry[(bulkI st.x b.soil).toNat]? with
  | some f, some c => if bestS st.x b (volE b f c) < 0 then st else if st.x.deps.length < 200 then ⟨placeY st.x b (st.x.pits.getD (bestS st.x b (volE b f c)).toNat zeroP).name (bulkI st.x b.soil).toNat f c, st.placed ++ [b], st.sum + volE b f c⟩ else st
  | _, _ => st
theorem stepS_at {st : Kst} {b : Batch} {k : Nat} (hk : bulkI st.x b.soil = k) (h1 : k < st.x.bulk.length) (h2 : k < st.x.carry.length) :
    stepS st b = if bestS st.x b (volE b st.x.bulk[k] st.x.carry[k]) < 0 then st else if st.x.deps.length < 200 then ⟨placeY st.x b (st.x.pits.getD (bestS st.x b (volE b st.x.bulk[k] st.x.carry[k])).toNat zeroP).name k st.x.bulk[k] st.x.carry[k], st.placed ++ [b], st.sum + volE b st.x.bulk[k] st.x.carry[k]⟩ else st := by
  unfold stepS
  rw [hk]
  simp only [Int.toNat_natCast, List.getElem?_eq_getElem h1, List.getElem?_eq_getElem h2]
def plcS (deps : List Dep) (l : List Batch) : Int := (l.map fun b => plcA deps b.number deps.length).sum
/-- Bulked volumes and remainders, one after another. -/
def bulS (y : Yard) (l : List Batch) : Int × List Int := l.foldl (fun a b => match y.bulk[(bulkI y b.soil).toNat]?, a.2[(bulkI y b.soil).toNat]? with
  | some f, some c => (a.1 + volE b f c, a.2.set (bulkI y b.soil).toNat (carE b f c))
  | _, _ => a) (0, List.replicate y.bulk.length 0)
structure KInv (s : Yard) (l : List Batch) (i : Nat) (st : Kst) : Prop where
  ok : OkYard st.x
  pits : st.x.pits = s.pits
  bulk : st.x.bulk = s.bulk
  mem : ∀ b ∈ st.placed, b ∈ l.take i
  dis : st.placed.Pairwise fun x y => x.number ≠ y.number
  len : st.placed.length ≤ i
  fresh : ∀ b ∈ l.drop i, depB st.x b.number = false
  sum : plcS st.x.deps st.placed = st.sum
  bd : 0 ≤ st.sum ∧ st.sum ≤ i * 10000000000001000
  car : (∀ c ∈ s.carry, c = 0) → bulS s st.placed = (st.sum, st.x.carry)
theorem okBatch_bulk {x s : Yard} (h : x.bulk = s.bulk) {b : Batch} (hb : OkBatch s b) : OkBatch x b := ⟨hb.num, hb.bed, hb.over, by have := hb.soil; unfold bulkI at this ⊢; rw [h]; exact this, hb.cls⟩
theorem bestS_some {x : Yard} {b : Batch} {v : Int} (h : ¬ bestS x b v < 0) : ∃ j : Nat, ∃ hj : j < x.pits.length, bestS x b v = j ∧ refE x x.pits[j] b.cls v = 0 := by
  rcases bestE_spec (l := x.pits) (ok := fun p => decide (refE x p b.cls v = 0)) x.pits.length (Nat.le_refl _) with e | ⟨j, hj, _, e, hr⟩
  · exact absurd (show bestS x b v < 0 by unfold bestS; rw [e]; decide) h
  · exact ⟨j, hj, e, of_decide_eq_true hr⟩
theorem KInv.next {s : Yard} {l : List Batch} {i : Nat} {st : Kst} (h : KInv s l i st) (hi : i < l.length) (hb : OkBatch s l[i]) (hd : l.Pairwise fun x y => x.number ≠ y.number) : KInv s l (i + 1) (stepS st l[i]) := by
  have hbx := okBatch_bulk h.bulk hb
  obtain ⟨k, hkl, hk, _⟩ := idxOf_at hbx.soil
  have hkl' : k < st.x.carry.length := by rw [h.ok.cl]; exact hkl
  have hv := sumE_bd hb.bed hb.over (h.ok.bok _ (List.getElem_mem hkl)).1 (h.ok.cok k hkl' hkl)
  have htake : ∀ b ∈ l.take i, b ∈ l.take (i + 1) := fun b hb => by
    rw [List.take_succ_eq_append_getElem hi]; exact List.mem_append_left _ hb
  have hdrop : ∀ b ∈ l.drop (i + 1), b ∈ l.drop i := fun b hb => by
    rw [List.drop_eq_getElem_cons hi]; exact List.mem_cons_of_mem _ hb
  have hnd : depB st.x l[i].number = false := h.fresh _ (by rw [List.drop_eq_getElem_cons hi]; exact List.mem_cons_self)
  have hsame : KInv s l (i + 1) st := ⟨h.ok, h.pits, h.bulk, fun b hb => htake b (h.mem b hb), h.dis, by have := h.len; omega, fun b hb => h.fresh b (hdrop b hb), h.sum, by have := h.bd; omega, h.car⟩
  rw [stepS_at hk hkl hkl']
  split
  · exact hsame
  rename_i hbest
  split
  rotate_left
  · exact hsame
  rename_i h200
  obtain ⟨j, hj, hbj, hr⟩ := bestS_some hbest
  rw [hbj]
  have hgd : st.x.pits.getD (j : Int).toNat zeroP = st.x.pits[j] := by rw [Int.toNat_natCast, List.getD_eq_getElem?_getD, List.getElem?_eq_getElem hj]; rfl
  rw [hgd]
  have hne : ∀ b ∈ l.take i, b.number ≠ l[i].number := take_names (f := fun x : Batch => x.number) hd hi
  refine ⟨placeY_ok h.ok hbx hkl hkl' hnd hj hr h200, h.pits, h.bulk, fun b hb => ?_, ?_, by have := h.len; simp only [List.length_append, List.length_singleton]; omega, fun b hb => ?_, ?_, by have := h.bd; dsimp only; omega, fun hz => ?_⟩
  · rcases List.mem_append.1 hb with hb | hb
    · exact htake b (h.mem b hb)
    · rw [List.take_succ_eq_append_getElem hi]; exact List.mem_append_right _ hb
  · refine List.pairwise_append.2 ⟨h.dis, by simp, fun x hx y hy => ?_⟩
    rw [List.mem_singleton] at hy
    subst hy
    exact hne x (h.mem x hx)
  · have h1 := h.fresh b (hdrop b hb)
    have h2 : l[i].number ≠ b.number := by
      obtain ⟨m, hm, rfl⟩ := List.mem_iff_getElem.1 hb
      rw [List.getElem_drop]
      exact List.pairwise_iff_getElem.1 hd i (i + 1 + m) hi (by rw [List.length_drop] at hm; omega) (by omega)
    unfold depB at h1 ⊢
    simp only [placeY, List.any_append, h1, Bool.false_or, List.any_cons, List.any_nil, Bool.or_false, decide_eq_false h2]
  · have h1 := h.sum
    unfold plcS at h1 ⊢
    simp only [placeY, List.map_append, List.sum_append, List.map_cons, List.map_nil, List.sum_cons, List.sum_nil, plcE_app]
    rw [plcA_none (depB_false hnd) _ (Nat.le_refl _), if_pos trivial]
    have e : st.placed.map (fun b => plcA st.x.deps b.number st.x.deps.length + if l[i].number = b.number then volE l[i] st.x.bulk[k] st.x.carry[k] else 0) = st.placed.map fun b => plcA st.x.deps b.number st.x.deps.length := by
      refine List.map_congr_left fun b hb => ?_
      rw [if_neg fun e => hne b (h.mem b hb) e.symm, Int.add_zero]
    rw [e, h1]
    omega
  · have h1 := h.car hz
    unfold bulS at h1 ⊢
    rw [List.foldl_append, h1]
    have hk' : bulkI s l[i].soil = k := by unfold bulkI; rw [← h.bulk]; exact hk
    have hkl2 : k < s.bulk.length := by rw [← h.bulk]; exact hkl
    have hb2 : st.x.bulk[k] = s.bulk[k] := by simp only [h.bulk]
    simp only [List.foldl_cons, List.foldl_nil, hk', Int.toNat_natCast, List.getElem?_eq_getElem hkl2, List.getElem?_eq_getElem hkl', placeY, hb2]
end Go.Pv.Soil

open Go Go.Proofs Go.Pv
set_option maxHeartbeats 1000000
set_option maxRecDepth 100000
set_option linter.unusedSimpArgs false
set_option linter.unusedVariables false
namespace Go.Pv.Soil

/-- A volume times a number, and a rest, divided: quotient, remainder, error. -/
def shareE (s : Soil) (v r num den : Int) : Int × Int × Int :=
  if soilsE [s] ≠ 0 then (0, 0, soilsE [s]) else if (0 ≤ v ∧ v ≤ 1000000000000000) ∧ (0 ≤ r ∧ r ≤ den - 1) then ((v * num + r) / den, (v * num + r) % den, 0) else (0, 0, 2)
def enc3 (x : Int × Int × Int) : D := .tup [.int .i64 x.1, .int .i64 x.2.1, .int .i64 x.2.2]

theorem mul_bd {v n : Int} (h : 0 ≤ v ∧ v ≤ 1000000000000000) (hn : 0 ≤ n ∧ n ≤ 5000) : 0 ≤ v * n ∧ v * n ≤ 5000000000000000000 := by
  refine ⟨Int.mul_nonneg h.1 hn.1, ?_⟩
  calc v * n ≤ 1000000000000000 * n := Int.mul_le_mul_of_nonneg_right h.2 hn.1
    _ ≤ 1000000000000000 * 5000 := Int.mul_le_mul_of_nonneg_left hn.2 (by omega)
    _ = 5000000000000000000 := rfl

theorem c92 (s : Soil) (v r num den : Int) (h : soilsE [s] = 0 → (0 ≤ num ∧ num ≤ 5000) ∧ 1 ≤ den ∧ den ≤ 1000000) :
    Contract Try.prog 33 [.agg (encSoil s), .int .i64 v, .int .i64 r, .int .i64 num, .int .i64 den] (.ret (enc3 (shareE s v r num den))) := by
  have h20 : Contract Try.prog 44 [.sl [encSoil s]] (.ret (.int .i64 (soilsE [s]))) := c20 [s] (by simp)
  refine contract_of mix Try.func33 rfl rfl (by rw [Try.ntmps33]; exact Nat.le_of_ble_eq_true rfl) ?_; rw [Try.results33, Try.ntmps33]; simp only [argsE, Nat.reduceAdd]
  repeat' first
           | (with_reducible apply go_op)
           | (with_reducible apply go_next)
           | ((with_reducible (show evOp _ _ _ _ _ _)); first
             | (((with_reducible apply go_mv_int); rfl; rfl))
             | ((with_reducible apply go_as))
             | (((with_reducible apply go_ld_agg); rfl; rfl; rfl; rfl))
             | (((with_reducible apply go_cmp); rfl; rfl; rfl; rfl))
             | (((with_reducible apply go_fn_int); rfl; (exact h20); rfl))
             | (((with_reducible apply go_bx_agg); rfl; rfl; (exact Nat.le_of_ble_eq_true rfl); rfl; rfl))
             | (((with_reducible apply go_bs1_agg); rfl; rfl; rfl; rfl; rfl; rfl)))
           | ((with_reducible (show evOps _ _ _ _ _ _)); first
             | (with_reducible apply go_nil))
           | ((with_reducible (show evG _ _ _ _ _)); first
             | (with_reducible apply go_seq)
             | (with_reducible apply go_region)
             | (((with_reducible apply go_cond); rfl) <;> (intro h; simp only [h]; try simp only [decide_eq_true_eq, decide_eq_false_iff_not, Bool.not_eq_true', Bool.not_eq_false', Bool.not_true, Bool.not_false] at h; try exact absurd trivial h))
             | (with_reducible apply go_ret)
             | (with_reducible apply go_skipc))
           | (with_reducible apply go_kseq)
           | (with_reducible apply go_kseq_ret)
           | ((with_reducible apply end_t3); rfl; rfl; rfl; rfl; rfl; rfl)
  · simp only [shareE, if_pos h]; rfl
  rename_i h0
  obtain ⟨hn, hd⟩ := h0 h
  clear h0
  have hm : (0 ≤ v ∧ v ≤ 1000000000000000) → 0 ≤ v * num ∧ v * num ≤ 5000000000000000000 := fun hv => mul_bd hv hn
  repeat' first
           | (with_reducible apply go_op)
           | (with_reducible apply go_next)
           | ((with_reducible (show evOp _ _ _ _ _ _)); first
             | ((with_reducible (show evOp _ (.move _) _ _ _ _)) ; first | ((with_reducible apply go_mv_int); rfl; rfl) | ((with_reducible apply go_mv_bool); rfl; rfl))
             | ((with_reducible apply go_as))
             | ((with_reducible (show evOp _ (.binOp _ _ _ _ _) _ _ _ _)) ; first | ((with_reducible apply go_add); rfl; rfl; rfl; omega) | ((with_reducible apply go_sub); rfl; rfl; rfl; omega) | ((with_reducible apply go_mul); rfl; rfl; rfl; omega) | ((with_reducible apply go_rem_pos); rfl; rfl; rfl; omega) | ((with_reducible apply go_quo_pos); rfl; rfl; rfl; omega))
             | (((with_reducible apply go_fn_bool); rfl; (exact c108 _ _ _); rfl))
             | (((with_reducible apply go_not); rfl; rfl))
             | (((with_reducible apply go_pick); rfl; rfl; rfl)))
           | ((with_reducible (show evOps _ _ _ _ _ _)); first
             | (with_reducible apply go_nil)
             | ((with_reducible apply go_run); rfl; rfl)
             | ((with_reducible apply go_pass); rfl; rfl; rfl)
             | (((with_reducible apply go_guard); rfl) <;> (intro h; simp only [h, Bool.not_true, Bool.not_false]; (try with_reducible (refine ⟨rfl, ?_⟩)); try simp only [decide_eq_true_eq, decide_eq_false_iff_not, Bool.not_eq_true', Bool.not_eq_false', Bool.not_true, Bool.not_false] at h; try exact absurd trivial h))
             | ((with_reducible apply go_pre); rfl)
             | (with_reducible apply go_pre_nil)
             | ((with_reducible apply go_suf); rfl)
             | (with_reducible apply go_suf_nil))
           | ((with_reducible (show evG _ _ _ _ _)); first
             | (with_reducible apply go_seq)
             | (with_reducible apply go_region)
             | ((with_reducible apply go_cond_t); rfl; rfl)
             | (((with_reducible apply go_cond); rfl) <;> (intro h; simp only [h]; try simp only [decide_eq_true_eq, decide_eq_false_iff_not, Bool.not_eq_true', Bool.not_eq_false', Bool.not_true, Bool.not_false] at h; try exact absurd trivial h))
             | ((with_reducible apply go_order); kernel_rfl; rfl)
             | (with_reducible apply go_ret)
             | (with_reducible apply go_skipc))
           | (with_reducible apply go_kseq)
           | (with_reducible apply go_ksuf)
           | (with_reducible apply go_kseq_ret)
           | ((with_reducible apply end_t3); rfl; rfl; rfl; rfl; rfl; rfl)
  · have e : shareE s v r num den = (0, 0, 2) := by simp only [shareE]; rw [if_neg (by simp [*]), if_neg (by omega)]
    rw [e]; rfl
  · have e : shareE s v r num den = ((v * num + r) / den, (v * num + r) % den, 0) := by simp only [shareE]; rw [if_neg (by simp [*]), if_pos (by omega)]
    rw [e]; rfl
  · have e : shareE s v r num den = (0, 0, 2) := by simp only [shareE]; rw [if_neg (by simp [*]), if_neg (by omega)]
    rw [e]; rfl

theorem soilsE_one {s : Soil} (h : soilsE [s] = 0) : soilE s = 0 := by
  simp only [soilsE, List.length_singleton] at h
  rw [if_neg (by omega), if_neg (by omega)] at h
  simp only [eachE, List.length_singleton, firstE, stepE, List.getElem?_cons_zero, List.take_zero, List.any_nil] at h
  by_cases h1 : nameOK s.name = false
  · simp [h1] at h
  · by_cases h2 : soilE s = 0
    · exact h2
    · simp [h1, h2] at h

theorem soilE_bd {s : Soil} (h : soilE s = 0) : (1 ≤ s.a ∧ s.a ≤ 1000) ∧ (1 ≤ s.b ∧ s.b ≤ 5000) ∧ (1 ≤ s.r ∧ s.r ≤ 1000) ∧ (1 ≤ s.h ∧ s.h ≤ 1000) ∧ s.h ≤ s.r := by
  unfold soilE at h
  split at h
  · assumption
  · cases h

theorem hBulk {s : Soil} (h : soilsE [s] = 0) : (0 ≤ s.r ∧ s.r ≤ 5000) ∧ 1 ≤ s.h ∧ s.h ≤ 1000000 := by
  have := soilE_bd (soilsE_one h); omega
theorem hMass {s : Soil} (h : soilsE [s] = 0) : (0 ≤ s.b ∧ s.b ≤ 5000) ∧ 1 ≤ (1000000 : Int) ∧ (1000000 : Int) ≤ 1000000 := by
  have := soilE_bd (soilsE_one h); omega

theorem c35 (s : Soil) (v r : Int) : Contract Try.prog 15 [.agg (encSoil s), .int .i64 v, .int .i64 r] (.ret (enc3 (shareE s v r s.r s.h))) := by
  refine contract_of mix Try.func15 rfl rfl (by rw [Try.ntmps15]; exact Nat.le_of_ble_eq_true rfl) ?_; rw [Try.results15, Try.ntmps15]; simp only [argsE, Nat.reduceAdd]
  repeat' first
           | (with_reducible apply go_op)
           | (with_reducible apply go_next)
           | ((with_reducible (show evOp _ _ _ _ _ _)); first
             | (((with_reducible apply go_mv_int); rfl; rfl))
             | ((with_reducible apply go_as))
             | ((with_reducible (show evOp _ (.load _ _) _ _ _ _)) ; first | ((with_reducible apply go_ld_agg); rfl; rfl; rfl; rfl) | ((with_reducible apply go_load_own); rfl; rfl; rfl; rfl))
             | (((with_reducible apply go_fieldAddr_own); rfl; rfl; rfl))
             | (((with_reducible apply go_fn_plain); rfl; (exact c92 s v r s.r s.h hBulk); rfl; (exact Nat.le_of_ble_eq_true rfl); rfl))
             | (((with_reducible apply go_extract); rfl; rfl))
             | (((with_reducible apply go_bx_agg); rfl; rfl; (exact Nat.le_of_ble_eq_true rfl); rfl; rfl)))
           | ((with_reducible (show evOps _ _ _ _ _ _)); first
             | (with_reducible apply go_nil))
           | ((with_reducible (show evG _ _ _ _ _)); first
             | (with_reducible apply go_seq)
             | (with_reducible apply go_region)
             | (with_reducible apply go_ret))
           | (with_reducible apply go_kseq)
           | ((with_reducible apply end_t3); rfl; rfl; rfl; rfl; rfl; rfl)
  rfl
end Go.Pv.Soil

open Go Go.Proofs Go.Pv
set_option maxHeartbeats 4000000
set_option maxRecDepth 100000
set_option linter.unusedSimpArgs false
set_option linter.unusedVariables false
namespace Go.Pv.Soil
theorem bulS_bulk {x s : Yard} (h : x.bulk = s.bulk) (l : List Batch) : bulS x l = bulS s l := by
  unfold bulS bulkI
  rw [h]
theorem balA_plc {y : Yard} {l : List Batch} (hs : OkYard y) (hb : ∀ b ∈ l, OkBatch y b) : ∀ i, i ≤ l.length → (balA y l i).placed = plcS y.deps (l.take i) ∧ bulS y (l.take i) = ((balA y l i).bulked, (balA y l i).carry)
  | 0, _ => ⟨rfl, rfl⟩
  | i + 1, h => by
    obtain ⟨h1, h2⟩ := balA_plc hs hb i (by omega)
    have hbi := hb l[i] (List.getElem_mem _)
    obtain ⟨k, hkl, hk, _⟩ := idxOf_at hbi.soil
    have hx := (balA_ok hs hb i (by omega)).1
    have e : balA y l (i + 1) = balStep y (balA y l i) l[i] := by simp only [balA, List.getElem?_eq_getElem (show i < l.length by omega)]
    rw [e, balStep_at hk hkl (by omega), List.take_succ_eq_append_getElem (by omega)]
    refine ⟨?_, ?_⟩
    · unfold plcS at h1 ⊢
      simp only [List.map_append, List.sum_append, List.map_cons, List.map_nil, List.sum_cons, List.sum_nil, h1]
      omega
    · have hk' : bulkI y l[i].soil = k := hk
      have hkc : k < (balA y l i).carry.length := by omega
      unfold bulS at h2 ⊢
      rw [List.foldl_append, h2]
      simp only [List.foldl_cons, List.foldl_nil, hk', Int.toNat_natCast, List.getElem?_eq_getElem hkl, List.getElem?_eq_getElem hkc]
def runS (s : Yard) (l : List Batch) : Nat → Kst
  | 0 => ⟨s, [], 0⟩
  | i + 1 => match l[i]? with
    | some b => stepS (runS s l i) b
    | none => runS s l i
/-- What is so of a yard and the batches for it. -/
structure OkList (s : Yard) (l : List Batch) : Prop where
  ok : OkYard s
  bat : ∀ b ∈ l, OkBatch s b
  dis : l.Pairwise fun x y => x.number ≠ y.number
  fresh : ∀ b ∈ l, depB s b.number = false
  len : l.length ≤ 12
theorem runS_inv {s : Yard} {l : List Batch} (h : OkList s l) : ∀ i, i ≤ l.length → KInv s l i (runS s l i)
  | 0, _ => by
    refine ⟨h.ok, rfl, rfl, fun b hb => by simp [runS] at hb, by simp [runS], by simp [runS], fun b hb => h.fresh b (by simpa using hb), rfl, by simp [runS], fun hz => ?_⟩
    show (0, List.replicate s.bulk.length 0) = (0, s.carry)
    rw [← h.ok.cl]
    congr 1
    symm
    exact List.eq_replicate_iff.2 ⟨rfl, hz⟩
  | i + 1, hi => by
    simp only [runS, List.getElem?_eq_getElem (show i < l.length by omega)]
    exact (runS_inv h i (by omega)).next (by omega) (h.bat _ (List.getElem_mem _)) h.dis
theorem runS_at {s : Yard} {l : List Batch} {i : Nat} (h : i < l.length) : runS s l (i + 1) = stepS (runS s l i) l[i] := by simp only [runS, List.getElem?_eq_getElem h]
/-- The soil's bulking is the yard's. -/
theorem share_bulk {f : Bulk} {b : Batch} {c : Int} (hb : 0 ≤ b.bed ∧ b.bed ≤ 1000000000000) (ho : 0 ≤ b.over ∧ b.over ≤ b.bed) (hf : bulkOK f = true) (hc : 0 ≤ c ∧ c ≤ f.den - 1) (hn : f.den ≤ f.num ∧ f.num ≤ 1000) :
    shareE ⟨"soil".toUTF8, 1, 1, f.num, f.den⟩ (b.bed - b.over) c f.num f.den = (volE b f c, carE b f c, 0) := by
  have h := of_decide_eq_true hf
  have hE : soilE ⟨"soil".toUTF8, 1, 1, f.num, f.den⟩ = 0 := by
    unfold soilE
    rw [if_pos (by dsimp only; omega)]
  have hs : soilsE [⟨"soil".toUTF8, 1, 1, f.num, f.den⟩] = 0 := by
    have hn : nameOK "soil".toUTF8 = true := by decide +kernel
    simp only [soilsE, List.length_singleton]
    rw [if_neg (by omega), if_neg (by omega)]
    simp only [eachE, List.length_singleton, firstE, stepE, List.getElem?_cons_zero, List.take_zero, List.any_nil, hn, hE]
    simp
  unfold shareE
  rw [if_neg (by rw [hs]; simp), if_pos (by omega)]
  rfl
end Go.Pv.Soil

open Go Go.Proofs Go.Pv
set_option maxHeartbeats 4000000
set_option maxRecDepth 100000
set_option linter.unusedSimpArgs false
set_option linter.unusedVariables false
namespace Go.Pv.Soil
theorem okBatch_list {s x : Yard} {l : List Batch} (h : OkList s l) (hb : x.bulk = s.bulk) {i : Nat} (hi : i < l.length) : OkBatch x l[i] := okBatch_bulk hb (h.bat _ (List.getElem_mem _))
def frE (c : List Int) (m : Nat) : Bool := (c.take m).all fun x => decide (x = 0)
theorem frE_at {c : List Int} {m : Nat} (h : m < c.length) : frE c (m + 1) = (frE c m && decide (c[m] = 0)) := by
  unfold frE
  rw [List.take_succ_eq_append_getElem h, List.all_append]
  simp
theorem k_kept (s : Yard) (l : List Batch) (h : OkList s l) : Contract Try.prog 4 [.agg (encYard s), .sl (l.map encBatch)] (.ret (.bool true)) := by
  have hlen := h.len
  have h20 := h.ok.b20
  have hcl0 := h.ok.cl
  have hb0 := k_Balance s [] h.ok (fun b hb => by simp at hb) List.Pairwise.nil (by simp)
  refine contract_of mix Try.func4 rfl rfl (by rw [Try.ntmps4]; exact Nat.le_of_ble_eq_true rfl) ?_; rw [Try.results4, Try.ntmps4]; simp only [argsE, Nat.reduceAdd]
  repeat' first
           | (with_reducible apply go_op)
           | (with_reducible apply go_next)
           | ((with_reducible (show evOp _ _ _ _ _ _)); first
             | ((with_reducible (show evOp _ (.move _) _ _ _ _)) ; first | ((with_reducible apply go_mv_int); rfl; rfl) | ((with_reducible apply go_mv_bool); rfl; rfl) | ((with_reducible apply go_mv_nilsl); rfl; rfl) | ((with_reducible apply go_mv_tup); rfl; rfl))
             | ((with_reducible apply go_as))
             | (((with_reducible apply go_ld_agg); rfl; rfl; rfl; rfl))
             | ((with_reducible (show evOp _ (.binOp _ _ _ _ _) _ _ _ _)) ; first | ((with_reducible apply go_cmp); rfl; rfl; rfl; rfl) | ((with_reducible apply go_neq_agg); rfl; rfl; rfl; rfl))
             | (((with_reducible apply go_fn_plain); rfl; (exact hb0); rfl; (exact Nat.le_of_ble_eq_true rfl); rfl))
             | (((with_reducible apply go_st_agg); rfl; rfl; rfl; rfl; rfl; rfl; rfl))
             | (((with_reducible apply go_extract); rfl; rfl))
             | (((with_reducible apply go_pick); rfl; rfl; rfl))
             | (((with_reducible apply go_build); rfl; rfl))
             | (((with_reducible apply go_bx_agg); rfl; rfl; (exact Nat.le_of_ble_eq_true rfl); rfl; rfl))
             | (((with_reducible apply go_alloc); rfl; rfl; rfl)))
           | ((with_reducible (show evOps _ _ _ _ _ _)); first
             | (with_reducible apply go_nil)
             | ((with_reducible apply go_run); rfl; rfl))
           | ((with_reducible (show evG _ _ _ _ _)); first
             | (with_reducible apply go_seq)
             | (with_reducible apply go_region)
             | ((with_reducible apply go_cond_f); rfl; rfl)
             | (with_reducible apply go_skipc)
             | (with_reducible apply go_block))
           | (with_reducible apply go_kseq)
  refine go_count l.length (fun i => ⟨[(8, .os 2 0 (runS s l i).placed.length), (10, .int .i64 i), (9, .int .i64 (runS s l i).sum), (7, .op 1 0 0), (1, .sl (l.map encBatch)), (2, .op 0 0 0)], [(2, ⟨5, true, (runS s l i).placed.map encBatch⟩), (0, ⟨4, true, [encYard s]⟩), (1, ⟨4, false, [encYard (runS s l i).x]⟩)], 96, 198⟩) (fun i => True) (entails_eq (nx := 96) (k := 5) (ns := [(8, 2)]) (ks := [10, 9, 7, 1, 2]) [(0, 0), (576, 1)] rfl (fun x hx => by rw [List.mem_singleton] at hx; subst hx; rfl) (by kernel_rfl)) trivial ?_
  intro i hi _
  have hinv := runS_inv h i hi
  by_cases hlt : i < l.length
  · have hat := runS_at (s := s) hlt
    have hbb := h.bat l[i] (List.getElem_mem _)
    generalize runS s l i = st at *
    obtain ⟨⟨xp, xb, xd, xc⟩, pl, sm⟩ := st
    have hxb : xb = s.bulk := hinv.bulk
    subst hxb
    have hbx : OkBatch (⟨xp, s.bulk, xd, xc⟩ : Yard) l[i] := okBatch_bulk (x := (⟨xp, s.bulk, xd, xc⟩ : Yard)) (s := s) rfl hbb
    have hok : OkYard (⟨xp, s.bulk, xd, xc⟩ : Yard) := hinv.ok
    obtain ⟨k, hkl, hk, _⟩ := idxOf_at hbb.soil
    have hcl : xc.length = s.bulk.length := hok.cl
    have hkc : k < xc.length := by omega
    have hst : stepS ⟨(⟨xp, s.bulk, xd, xc⟩ : Yard), pl, sm⟩ l[i] = _ := stepS_at (st := ⟨(⟨xp, s.bulk, xd, xc⟩ : Yard), pl, sm⟩) (k := k) hk hkl hkc
    rw [hst] at hat
    clear hst
    have hch := k_Choose (⟨xp, s.bulk, xd, xc⟩ : Yard) l[i] k hok hbx hk hkl hkc (bestS (⟨xp, s.bulk, xd, xc⟩ : Yard) l[i] (volE l[i] s.bulk[k] xc[k])) rfl
    have hbd := k_Bulked (⟨xp, s.bulk, xd, xc⟩ : Yard) l[i] k hok hbx hk hkl hkc
    have hfa := r_Factor s.bulk (by omega) l[i].soil
    rw [show idxOf (fun x => decide (x.soil = l[i].soil)) s.bulk = k from hk] at hfa
    have hnd : depB (⟨xp, s.bulk, xd, xc⟩ : Yard) l[i].number = false := hinv.fresh _ (by rw [List.drop_eq_getElem_cons hlt]; exact List.mem_cons_self)
    have hcb : 0 ≤ xc[k] ∧ xc[k] ≤ s.bulk[k].den - 1 := hok.cok k hkc hkl
    have hbk := (h.ok.bok _ (List.getElem_mem hkl)).1
    have hsb : 0 ≤ sm ∧ sm ≤ i * 10000000000001000 := hinv.bd
    have hpl : pl.length ≤ i := hinv.len
    have hbed := hbb.bed
    have hov := hbb.over
    have hv := sumE_bd hbed hov hbk hcb
    have hsh := share_bulk hbed hov hbk hcb
    have hbul : Contract Try.prog 15 _ (.ret (enc3 (shareE _ _ _ s.bulk[k].num s.bulk[k].den))) := c35 ⟨"soil".toUTF8, 1, 1, s.bulk[k].num, s.bulk[k].den⟩ (l[i].bed - l[i].over) xc[k]
    have hplc : ∀ (j : Nat) (hj : j < xp.length), refE (⟨xp, s.bulk, xd, xc⟩ : Yard) xp[j] l[i].cls (volE l[i] s.bulk[k] xc[k]) = 0 → _ := fun j hj hr => k_Place (⟨xp, s.bulk, xd, xc⟩ : Yard) l[i] xp[j].name k j hok hbx hk hkl hkc hnd (pitI_self hok hj) hj hr
    generalize hw : shareE ⟨"soil".toUTF8, 1, 1, s.bulk[k].num, s.bulk[k].den⟩ (l[i].bed - l[i].over) xc[k] s.bulk[k].num s.bulk[k].den = w at *
    obtain ⟨w1, w2, w3⟩ := w
    dsimp only at hch hbd hplc
    by_cases hbest : bestS (⟨xp, s.bulk, xd, xc⟩ : Yard) l[i] (volE l[i] s.bulk[k] xc[k]) < 0
    · have hat2 : runS s l (i + 1) = ⟨(⟨xp, s.bulk, xd, xc⟩ : Yard), pl, sm⟩ := by rw [hat]; exact if_pos hbest
      rw [if_pos hbest, if_pos hbest] at hch
      repeat' first
           | (with_reducible apply go_op)
           | (with_reducible apply go_next)
           | ((with_reducible (show evOp _ _ _ _ _ _)); first
             | ((with_reducible (show evOp _ (.move _) _ _ _ _)) ; first | ((with_reducible apply go_mv_int); rfl; rfl) | ((with_reducible apply go_mv_sl); rfl; rfl) | ((with_reducible apply go_mv_os); rfl; rfl) | ((with_reducible apply go_mv_tup); rfl; rfl) | ((with_reducible apply go_mv_str); rfl; rfl))
             | ((with_reducible apply go_as))
             | ((with_reducible (show evOp _ (.load _ _) _ _ _ _)) ; first | ((with_reducible apply go_ld_ptr); rfl; rfl; rfl) | ((with_reducible apply go_ld_agg); rfl; rfl; rfl; rfl))
             | (((with_reducible apply go_index_nat); rfl; rfl; (with_reducible rfl); (intro; rfl); rfl; omega; (intro hlt)))
             | ((with_reducible (show evOp _ (.binOp _ _ _ _ _) _ _ _ _)) ; first | ((with_reducible apply go_cmp); rfl; rfl; rfl; rfl) | ((with_reducible apply go_add); rfl; rfl; rfl; omega))
             | ((with_reducible (show evOp _ (.call _) _ _ _ _)) ; first | ((with_reducible apply go_len); rfl; rfl) | ((with_reducible apply go_fn_plain); rfl; (exact hch); rfl; (exact Nat.le_of_ble_eq_true rfl); rfl))
             | (((with_reducible apply go_extract); rfl; rfl)))
           | ((with_reducible (show evOps _ _ _ _ _ _)); first
             | (with_reducible apply go_nil)
             | ((with_reducible apply go_pre); rfl)
             | (with_reducible apply go_pre_nil)
             | ((with_reducible apply go_suf); rfl)
             | (with_reducible apply go_suf_nil))
           | ((with_reducible (show evG _ _ _ _ _)); first
             | (with_reducible apply go_seq)
             | (with_reducible apply go_region)
             | ((with_reducible apply go_cond_t); rfl; rfl)
             | (((with_reducible apply go_cond); rfl) <;> (intro h; simp only [h]; try simp only [decide_eq_true_eq, decide_eq_false_iff_not, Bool.not_eq_true', Bool.not_eq_false', Bool.not_true, Bool.not_false] at h; try exact absurd trivial h))
             | ((with_reducible apply go_order); kernel_rfl; rfl)
             | (with_reducible apply go_skipc)
             | (with_reducible apply go_block)
             | (with_reducible apply go_exit))
           | (with_reducible apply go_kseq)
           | (with_reducible apply go_ksuf)
           | (with_reducible apply go_kblock_exit)
           | (with_reducible apply go_kseq_exit)
      all_goals first
        | exact absurd hlt (by omega)
        | (refine ⟨by omega, trivial, ?_⟩
           show Entails _ ⟨[(8, .os 2 0 (runS s l (i + 1)).placed.length), (10, .int .i64 (i + 1 : Nat)), (9, .int .i64 (runS s l (i + 1)).sum), (7, .op 1 0 0), (1, .sl (l.map encBatch)), (2, .op 0 0 0)], [(2, ⟨5, true, (runS s l (i + 1)).placed.map encBatch⟩), (0, ⟨4, true, [encYard s]⟩), (1, ⟨4, false, [encYard (runS s l (i + 1)).x]⟩)], 96, 198⟩
           rw [hat2]
           exact entails_eq (nx := 96) (k := 0) (ns := []) (ks := [8, 10, 9, 7, 1, 2]) [(2, 2), (0, 0), (1, 1)] rfl (by simp) (by kernel_rfl))
        | trace_state
    · obtain ⟨j, hj, hbj, hr⟩ := bestS_some hbest
      have hgd : xp.getD (j : Int).toNat zeroP = xp[j]'hj := by rw [Int.toNat_natCast, List.getD_eq_getElem?_getD, List.getElem?_eq_getElem hj]; rfl
      rw [if_neg hbest, if_neg hbest, hbj] at hch
      rw [hgd] at hch
      have hpc := hplc j hj hr
      by_cases h200 : xd.length < 200
      · have hat2 : runS s l (i + 1) = ⟨placeY (⟨xp, s.bulk, xd, xc⟩ : Yard) l[i] (xp[j]'hj).name k s.bulk[k] xc[k], pl ++ [l[i]], sm + volE l[i] s.bulk[k] xc[k]⟩ := by
          rw [hat]
          refine (if_neg hbest).trans ((if_pos h200).trans ?_)
          rw [hbj]
          show Kst.mk (placeY (⟨xp, s.bulk, xd, xc⟩ : Yard) l[i] (xp.getD (j : Int).toNat zeroP).name k s.bulk[k] xc[k]) _ _ = _
          rw [hgd]
        rw [if_pos h200, if_pos h200] at hpc
        repeat' first
           | (with_reducible apply go_op)
           | (with_reducible apply go_next)
           | ((with_reducible (show evOp _ _ _ _ _ _)); first
             | ((with_reducible (show evOp _ (.move _) _ _ _ _)) ; first | ((with_reducible apply go_mv_int); rfl; rfl) | ((with_reducible apply go_mv_bool); rfl; rfl) | ((with_reducible apply go_mv_sl); rfl; rfl) | ((with_reducible apply go_mv_os); rfl; rfl) | ((with_reducible apply go_mv_tup); rfl; rfl) | ((with_reducible apply go_mv_str); rfl; rfl))
             | ((with_reducible apply go_as))
             | ((with_reducible (show evOp _ (.load _ _) _ _ _ _)) ; first | ((with_reducible apply go_ld_ptr); rfl; rfl; rfl) | ((with_reducible apply go_ld_agg); rfl; rfl; rfl; rfl) | ((with_reducible apply go_load); rfl; rfl; rfl) | ((with_reducible apply go_load_own); rfl; rfl; rfl; rfl))
             | ((with_reducible (show evOp _ (.fieldAddr _ _ _) _ _ _ _)) ; first | ((with_reducible apply go_fieldAddr); rfl; rfl) | ((with_reducible apply go_fieldAddr_own); rfl; rfl; rfl))
             | (((with_reducible apply go_index_nat); rfl; rfl; (with_reducible rfl); (intro; rfl); rfl; omega; (intro hlt)))
             | ((with_reducible (show evOp _ (.binOp _ _ _ _ _) _ _ _ _)) ; first | ((with_reducible apply go_cmp); rfl; rfl; rfl; rfl) | ((with_reducible apply go_sub); rfl; rfl; rfl; omega))
             | ((with_reducible (show evOp _ (.call _) _ _ _ _)) ; first | ((with_reducible apply go_len); rfl; rfl) | ((with_reducible apply go_fn_pr); rfl; rfl; (exact hch); rfl; (exact Nat.le_of_ble_eq_true rfl); rfl) | ((with_reducible apply go_fn_plain); rfl; (exact hbd); rfl; (exact Nat.le_of_ble_eq_true rfl); rfl) | ((with_reducible apply go_fn_int); rfl; (exact hfa); rfl) | ((with_reducible apply go_fn_plain); rfl; (exact hbul); rfl; (exact Nat.le_of_ble_eq_true rfl); rfl) | ((with_reducible apply go_fn_pr); rfl; rfl; (exact hpc); rfl; (exact Nat.le_of_ble_eq_true rfl); rfl))
             | (((with_reducible apply go_st_agg); rfl; rfl; rfl; rfl; rfl; rfl; rfl))
             | (((with_reducible apply go_extract); rfl; rfl))
             | (((with_reducible apply go_pick); rfl; rfl; rfl))
             | (((with_reducible apply go_build); rfl; rfl))
             | (((with_reducible apply go_alloc); rfl; rfl; rfl))
             | (((with_reducible apply go_bs1_agg); rfl; rfl; rfl; rfl; rfl; rfl)))
           | ((with_reducible (show evOps _ _ _ _ _ _)); first
             | (with_reducible apply go_nil)
             | ((with_reducible apply go_run); rfl; rfl)
             | ((with_reducible apply go_pass); rfl; rfl; rfl)
             | ((with_reducible apply go_skip); rfl; rfl)
             | (((with_reducible apply go_guard); rfl) <;> (intro h; simp only [h, Bool.not_true, Bool.not_false]; (try with_reducible (refine ⟨rfl, ?_⟩)); try simp only [decide_eq_true_eq, decide_eq_false_iff_not, Bool.not_eq_true', Bool.not_eq_false', Bool.not_true, Bool.not_false] at h; try exact absurd trivial h))
             | ((with_reducible apply go_pre); rfl)
             | (with_reducible apply go_pre_nil)
             | ((with_reducible apply go_suf); rfl)
             | (with_reducible apply go_suf_nil)
             | (with_reducible apply go_take)
             | (with_reducible apply go_take0))
           | ((with_reducible (show evG _ _ _ _ _)); first
             | (with_reducible apply go_seq)
             | (with_reducible apply go_region)
             | ((with_reducible apply go_cond_t); rfl; rfl)
             | ((with_reducible apply go_cond_f); rfl; rfl)
             | (((with_reducible apply go_cond); rfl) <;> (intro h; simp only [h]; try simp only [decide_eq_true_eq, decide_eq_false_iff_not, Bool.not_eq_true', Bool.not_eq_false', Bool.not_true, Bool.not_false] at h; try exact absurd trivial h))
             | ((with_reducible apply (go_drawL 11 [[9], []])); decide +kernel; rfl)
             | ((with_reducible apply go_order); kernel_rfl; rfl)
             | (with_reducible apply go_ret)
             | (with_reducible apply go_skipc)
             | (with_reducible apply go_block)
             | (with_reducible apply go_exit))
           | (with_reducible apply go_klined)
           | (with_reducible apply go_line_drop)
           | (with_reducible apply go_line_drop0)
           | (with_reducible apply go_line)
           | (with_reducible apply go_line_nil)
           | (with_reducible apply go_kln)
           | (with_reducible apply go_again_nil)
           | ((with_reducible apply go_again); rfl; (intro id'))
           | ((with_reducible apply go_kagain); rfl)
           | (with_reducible apply go_kseq)
           | (with_reducible apply go_ksuf)
           | (with_reducible apply go_kseq_ret)
           | (with_reducible apply go_kblock_ret)
           | (with_reducible apply go_kblock_exit)
           | (with_reducible apply go_kseq_exit)
           | ((with_reducible apply end_bool); rfl)
        all_goals first
          | exact absurd hlt (by omega)
          | (exfalso; have hh := hsh ⟨by omega, by omega⟩; simp only [Prod.mk.injEq] at hh; omega)
          | skip
        all_goals
          refine go_app_map (f := encBatch) (a := l[i]) (l := pl) scalBatch rfl rfl rfl rfl rfl rfl (by kernel_rfl) (by kernel_rfl) (by omega) rfl ?_
          repeat' first
           | (with_reducible apply go_op)
           | (with_reducible apply go_next)
           | ((with_reducible (show evOp _ _ _ _ _ _)); first
             | ((with_reducible (show evOp _ (.move _) _ _ _ _)) ; first | ((with_reducible apply go_mv_int); rfl; rfl) | ((with_reducible apply go_mv_os); rfl; rfl))
             | ((with_reducible apply go_as))
             | (((with_reducible apply go_add); rfl; rfl; rfl; omega)))
           | ((with_reducible (show evOps _ _ _ _ _ _)); first
             | (with_reducible apply go_nil))
           | ((with_reducible (show evG _ _ _ _ _)); first
             | (with_reducible apply go_region))
           | (with_reducible apply go_kseq)
           | (with_reducible apply go_kblock)
          refine ⟨by omega, trivial, ?_⟩
          show Entails _ ⟨[(8, .os 2 0 (runS s l (i + 1)).placed.length), (10, .int .i64 (i + 1 : Nat)), (9, .int .i64 (runS s l (i + 1)).sum), (7, .op 1 0 0), (1, .sl (l.map encBatch)), (2, .op 0 0 0)], [(2, ⟨5, true, (runS s l (i + 1)).placed.map encBatch⟩), (0, ⟨4, true, [encYard s]⟩), (1, ⟨4, false, [encYard (runS s l (i + 1)).x]⟩)], 96, 198⟩
          rw [hat2]
          show Entails _ ⟨[(8, .os 2 0 (pl ++ [l[i]]).length), (10, .int .i64 (i + 1 : Nat)), (9, .int .i64 (sm + volE l[i] s.bulk[k] xc[k])), (7, .op 1 0 0), (1, .sl (l.map encBatch)), (2, .op 0 0 0)], [(2, ⟨5, true, (pl ++ [l[i]]).map encBatch⟩), (0, ⟨4, true, [encYard s]⟩), (1, ⟨4, false, [encYard (placeY (⟨xp, s.bulk, xd, xc⟩ : Yard) l[i] (xp[j]'hj).name k s.bulk[k] xc[k])]⟩)], 96, 198⟩
          rw [List.length_append]
          exact entails_eq (nx := 96) (k := 0) (ns := []) (ks := [8, 10, 9, 7, 1, 2]) [(2, 2), (0, 0), (1, 1)] rfl (by simp) (by kernel_rfl)
      · have hat2 : runS s l (i + 1) = ⟨(⟨xp, s.bulk, xd, xc⟩ : Yard), pl, sm⟩ := by
          rw [hat]
          exact (if_neg hbest).trans (if_neg h200)
        rw [if_neg h200, if_neg h200] at hpc
        repeat' first
           | (with_reducible apply go_op)
           | (with_reducible apply go_next)
           | ((with_reducible (show evOp _ _ _ _ _ _)); first
             | ((with_reducible (show evOp _ (.move _) _ _ _ _)) ; first | ((with_reducible apply go_mv_int); rfl; rfl) | ((with_reducible apply go_mv_bool); rfl; rfl) | ((with_reducible apply go_mv_sl); rfl; rfl) | ((with_reducible apply go_mv_os); rfl; rfl) | ((with_reducible apply go_mv_tup); rfl; rfl) | ((with_reducible apply go_mv_str); rfl; rfl))
             | ((with_reducible apply go_as))
             | ((with_reducible (show evOp _ (.load _ _) _ _ _ _)) ; first | ((with_reducible apply go_ld_ptr); rfl; rfl; rfl) | ((with_reducible apply go_ld_agg); rfl; rfl; rfl; rfl) | ((with_reducible apply go_load); rfl; rfl; rfl) | ((with_reducible apply go_load_own); rfl; rfl; rfl; rfl))
             | ((with_reducible (show evOp _ (.fieldAddr _ _ _) _ _ _ _)) ; first | ((with_reducible apply go_fieldAddr); rfl; rfl) | ((with_reducible apply go_fieldAddr_own); rfl; rfl; rfl))
             | (((with_reducible apply go_index_nat); rfl; rfl; (with_reducible rfl); (intro; rfl); rfl; omega; (intro hlt)))
             | ((with_reducible (show evOp _ (.binOp _ _ _ _ _) _ _ _ _)) ; first | ((with_reducible apply go_cmp); rfl; rfl; rfl; rfl) | ((with_reducible apply go_add); rfl; rfl; rfl; omega) | ((with_reducible apply go_sub); rfl; rfl; rfl; omega))
             | ((with_reducible (show evOp _ (.call _) _ _ _ _)) ; first | ((with_reducible apply go_len); rfl; rfl) | ((with_reducible apply go_fn_pr); rfl; rfl; (exact hch); rfl; (exact Nat.le_of_ble_eq_true rfl); rfl) | ((with_reducible apply go_fn_plain); rfl; (exact hbd); rfl; (exact Nat.le_of_ble_eq_true rfl); rfl) | ((with_reducible apply go_fn_int); rfl; (exact hfa); rfl) | ((with_reducible apply go_fn_plain); rfl; (exact hbul); rfl; (exact Nat.le_of_ble_eq_true rfl); rfl) | ((with_reducible apply go_fn_pr); rfl; rfl; (exact hpc); rfl; (exact Nat.le_of_ble_eq_true rfl); rfl))
             | (((with_reducible apply go_st_agg); rfl; rfl; rfl; rfl; rfl; rfl; rfl))
             | (((with_reducible apply go_extract); rfl; rfl))
             | (((with_reducible apply go_pick); rfl; rfl; rfl))
             | (((with_reducible apply go_build); rfl; rfl))
             | (((with_reducible apply go_alloc); rfl; rfl; rfl)))
           | ((with_reducible (show evOps _ _ _ _ _ _)); first
             | (with_reducible apply go_nil)
             | ((with_reducible apply go_run); rfl; rfl)
             | ((with_reducible apply go_pass); rfl; rfl; rfl)
             | ((with_reducible apply go_skip); rfl; rfl)
             | (((with_reducible apply go_guard); rfl) <;> (intro h; simp only [h, Bool.not_true, Bool.not_false]; (try with_reducible (refine ⟨rfl, ?_⟩)); try simp only [decide_eq_true_eq, decide_eq_false_iff_not, Bool.not_eq_true', Bool.not_eq_false', Bool.not_true, Bool.not_false] at h; try exact absurd trivial h))
             | ((with_reducible apply go_pre); rfl)
             | (with_reducible apply go_pre_nil)
             | ((with_reducible apply go_suf); rfl)
             | (with_reducible apply go_suf_nil)
             | (with_reducible apply go_take)
             | (with_reducible apply go_take0))
           | ((with_reducible (show evG _ _ _ _ _)); first
             | (with_reducible apply go_seq)
             | (with_reducible apply go_region)
             | ((with_reducible apply go_cond_t); rfl; rfl)
             | ((with_reducible apply go_cond_f); rfl; rfl)
             | (((with_reducible apply go_cond); rfl) <;> (intro h; simp only [h]; try simp only [decide_eq_true_eq, decide_eq_false_iff_not, Bool.not_eq_true', Bool.not_eq_false', Bool.not_true, Bool.not_false] at h; try exact absurd trivial h))
             | ((with_reducible apply (go_drawL 11 [[9], []])); decide +kernel; rfl)
             | ((with_reducible apply go_order); kernel_rfl; rfl)
             | (with_reducible apply go_ret)
             | (with_reducible apply go_skipc)
             | (with_reducible apply go_block)
             | (with_reducible apply go_exit))
           | (with_reducible apply go_klined)
           | (with_reducible apply go_line_drop)
           | (with_reducible apply go_line_drop0)
           | (with_reducible apply go_line)
           | (with_reducible apply go_line_nil)
           | (with_reducible apply go_kln)
           | (with_reducible apply go_again_nil)
           | ((with_reducible apply go_again); rfl; (intro id'))
           | ((with_reducible apply go_kagain); rfl)
           | (with_reducible apply go_kseq)
           | (with_reducible apply go_ksuf)
           | (with_reducible apply go_kseq_ret)
           | (with_reducible apply go_kblock_ret)
           | (with_reducible apply go_kblock_exit)
           | (with_reducible apply go_kseq_exit)
           | ((with_reducible apply end_bool); rfl)
        all_goals first
          | exact absurd hlt (by omega)
          | (exfalso; have hh := hsh ⟨by omega, by omega⟩; simp only [Prod.mk.injEq] at hh; omega)
          | (refine ⟨by omega, trivial, ?_⟩
             show Entails _ ⟨[(8, .os 2 0 (runS s l (i + 1)).placed.length), (10, .int .i64 (i + 1 : Nat)), (9, .int .i64 (runS s l (i + 1)).sum), (7, .op 1 0 0), (1, .sl (l.map encBatch)), (2, .op 0 0 0)], [(2, ⟨5, true, (runS s l (i + 1)).placed.map encBatch⟩), (0, ⟨4, true, [encYard s]⟩), (1, ⟨4, false, [encYard (runS s l (i + 1)).x]⟩)], 96, 198⟩
             rw [hat2]
             exact entails_eq (nx := 96) (k := 0) (ns := []) (ks := [8, 10, 9, 7, 1, 2]) [(2, 2), (0, 0), (1, 1)] rfl (by simp) (by kernel_rfl))
          | trace_state
  · have e : i = l.length := by omega
    subst e
    have hbx : ∀ b ∈ (runS s l l.length).placed, OkBatch (runS s l l.length).x b := fun b hb => okBatch_bulk hinv.bulk (h.bat b (List.mem_of_mem_take (hinv.mem b hb)))
    have hpl := hinv.len
    have hbal := k_Balance (runS s l l.length).x (runS s l l.length).placed hinv.ok hbx hinv.dis (by omega)
    obtain ⟨hp1, hp2⟩ := balA_plc hinv.ok hbx (runS s l l.length).placed.length (Nat.le_refl _)
    rw [List.take_length] at hp1 hp2
    rw [hinv.sum] at hp1
    have hfr : (∀ c ∈ s.carry, c = 0) → (balA (runS s l l.length).x (runS s l l.length).placed (runS s l l.length).placed.length).bulked = (runS s l l.length).sum := fun hz => by
      have h1 := hinv.car hz
      rw [← bulS_bulk hinv.bulk, hp2] at h1
      exact congrArg Prod.fst h1
    generalize balA (runS s l l.length).x (runS s l l.length).placed (runS s l l.length).placed.length = B at *
    generalize runS s l l.length = st at *
    repeat' first
           | (with_reducible apply go_op)
           | (with_reducible apply go_next)
           | ((with_reducible (show evOp _ _ _ _ _ _)); first
             | ((with_reducible (show evOp _ (.move _) _ _ _ _)) ; first | ((with_reducible apply go_mv_int); rfl; rfl) | ((with_reducible apply go_mv_sl); rfl; rfl) | ((with_reducible apply go_mv_os); rfl; rfl))
             | ((with_reducible (show evOp _ (.load _ _) _ _ _ _)) ; first | ((with_reducible apply go_ld_ptr); rfl; rfl; rfl) | ((with_reducible apply go_ld_agg); rfl; rfl; rfl; rfl))
             | (((with_reducible apply go_index_nat); rfl; rfl; (with_reducible rfl); (intro; rfl); rfl; omega; (intro hlt)))
             | (((with_reducible apply go_cmp); rfl; rfl; rfl; rfl))
             | (((with_reducible apply go_len); rfl; rfl)))
           | ((with_reducible (show evOps _ _ _ _ _ _)); first
             | (with_reducible apply go_nil)
             | ((with_reducible apply go_pre); rfl))
           | ((with_reducible (show evG _ _ _ _ _)); first
             | (with_reducible apply go_seq)
             | (with_reducible apply go_region)
             | (((with_reducible apply go_cond); rfl) <;> (intro h; simp only [h]; try simp only [decide_eq_true_eq, decide_eq_false_iff_not, Bool.not_eq_true', Bool.not_eq_false', Bool.not_true, Bool.not_false] at h; try exact absurd trivial h))
             | ((with_reducible apply go_order); kernel_rfl; rfl)
             | (with_reducible apply go_skipc)
             | (with_reducible apply go_block)
             | (with_reducible apply go_exit))
           | (with_reducible apply go_kseq)
           | (with_reducible apply go_kblock_exit)
           | (with_reducible apply go_kseq_exit)
    all_goals try exact absurd hlt (by omega)
    refine go_fn_plain (purL_2os (d' := .agg (encYard st.x)) (f := encBatch) (l := st.placed) rfl rfl rfl) hbal rfl (Nat.le_of_ble_eq_true rfl) rfl ?_
    repeat' first
           | (with_reducible apply go_op)
           | (with_reducible apply go_next)
           | ((with_reducible (show evOp _ _ _ _ _ _)); first
             | ((with_reducible (show evOp _ (.move _) _ _ _ _)) ; first | ((with_reducible apply go_mv_int); rfl; rfl) | ((with_reducible apply go_mv_bool); rfl; rfl) | ((with_reducible apply go_mv_tup); rfl; rfl))
             | ((with_reducible apply go_as))
             | (((with_reducible apply go_load_own); rfl; rfl; rfl; rfl))
             | (((with_reducible apply go_fieldAddr_own); rfl; rfl; rfl))
             | (((with_reducible apply go_cmp); rfl; rfl; rfl; rfl))
             | (((with_reducible apply go_st_agg); rfl; rfl; rfl; rfl; rfl; rfl; rfl))
             | (((with_reducible apply go_extract); rfl; rfl))
             | (((with_reducible apply go_pick); rfl; rfl; rfl))
             | (((with_reducible apply go_alloc); rfl; rfl; rfl)))
           | ((with_reducible (show evOps _ _ _ _ _ _)); first
             | (with_reducible apply go_nil)
             | ((with_reducible apply go_run); rfl; rfl))
           | ((with_reducible (show evG _ _ _ _ _)); first
             | (with_reducible apply go_seq)
             | (with_reducible apply go_region)
             | (((with_reducible apply go_cond); rfl) <;> (intro h; simp only [h]; try simp only [decide_eq_true_eq, decide_eq_false_iff_not, Bool.not_eq_true', Bool.not_eq_false', Bool.not_true, Bool.not_false] at h; try exact absurd trivial h))
             | (with_reducible apply go_ret)
             | (with_reducible apply go_skipc)
             | (with_reducible apply go_block))
           | (with_reducible apply go_kseq)
           | (with_reducible apply go_kseq_ret)
           | ((with_reducible apply end_bool); rfl)
    all_goals try (exfalso; omega)
    refine go_count s.carry.length (fun m => ⟨[(22, .int .i64 m), (21, .bool (frE s.carry m)), (20, .op 1 0 0), (9, .int .i64 st.sum), (2, .op 0 0 0)], [(0, ⟨4, true, [encYard s]⟩), (1, ⟨4, true, [encBal B]⟩)], 64, 198⟩) (fun m => True) (entails_eq (nx := 64) (k := 0) (ns := []) (ks := [22, 21, 20, 9, 2]) [(0, 0), (416, 1)] rfl (by simp) (by kernel_rfl)) trivial ?_
    intro m hm _
    by_cases hlm : m < s.carry.length
    · have hfa := frE_at hlm
      generalize frE s.carry m = q at *
      cases q with
      | false =>
        rw [Bool.false_and] at hfa
        repeat' first
           | (with_reducible apply go_op)
           | (with_reducible apply go_next)
           | ((with_reducible (show evOp _ _ _ _ _ _)); first
             | ((with_reducible (show evOp _ (.move _) _ _ _ _)) ; first | ((with_reducible apply go_mv_int); rfl; rfl) | ((with_reducible apply go_mv_bool); rfl; rfl))
             | ((with_reducible apply go_as))
             | (((with_reducible apply go_load_own); rfl; rfl; rfl; rfl))
             | (((with_reducible apply go_fieldAddr_own); rfl; rfl; rfl))
             | ((with_reducible (show evOp _ (.binOp _ _ _ _ _) _ _ _ _)) ; first | ((with_reducible apply go_cmp); rfl; rfl; rfl; rfl) | ((with_reducible apply go_add); rfl; rfl; rfl; omega))
             | (((with_reducible apply go_len); rfl; rfl))
             | (((with_reducible apply go_not); rfl; rfl))
             | (((with_reducible apply go_pick); rfl; rfl; rfl)))
           | ((with_reducible (show evOps _ _ _ _ _ _)); first
             | (with_reducible apply go_nil)
             | ((with_reducible apply go_pass); rfl; rfl; rfl))
           | ((with_reducible (show evG _ _ _ _ _)); first
             | (with_reducible apply go_seq)
             | (with_reducible apply go_region)
             | (((with_reducible apply go_cond); rfl) <;> (intro h; simp only [h]; try simp only [decide_eq_true_eq, decide_eq_false_iff_not, Bool.not_eq_true', Bool.not_eq_false', Bool.not_true, Bool.not_false] at h; try exact absurd trivial h))
             | (with_reducible apply go_ret)
             | (with_reducible apply go_skipc)
             | (with_reducible apply go_block)
             | (with_reducible apply go_exit))
           | (with_reducible apply go_kseq)
           | (with_reducible apply go_kblock)
           | (with_reducible apply go_kblock_exit)
           | (with_reducible apply go_kseq_exit)
           | ((with_reducible apply end_bool); rfl)
           | (with_reducible rfl)
        all_goals first
          | exact absurd hlm (by omega)
          | (refine ⟨by omega, trivial, ?_⟩
             show Entails _ ⟨[(22, .int .i64 (m + 1 : Nat)), (21, .bool (frE s.carry (m + 1))), (20, .op 1 0 0), (9, .int .i64 st.sum), (2, .op 0 0 0)], [(0, ⟨4, true, [encYard s]⟩), (1, ⟨4, true, [encBal B]⟩)], 64, 198⟩
             rw [hfa]
             exact entails_eq (nx := 64) (k := 0) (ns := []) (ks := [22, 21, 20, 9, 2]) [(0, 0), (1, 1)] rfl (by simp) (by kernel_rfl))
          | trace_state
      | true =>
        rw [Bool.true_and] at hfa
        repeat' first
           | (with_reducible apply go_op)
           | (with_reducible apply go_next)
           | ((with_reducible (show evOp _ _ _ _ _ _)); first
             | ((with_reducible (show evOp _ (.move _) _ _ _ _)) ; first | ((with_reducible apply go_mv_int); rfl; rfl) | ((with_reducible apply go_mv_bool); rfl; rfl))
             | ((with_reducible apply go_as))
             | ((with_reducible (show evOp _ (.load _ _) _ _ _ _)) ; first | ((with_reducible apply go_load); rfl; rfl; rfl) | ((with_reducible apply go_load_own); rfl; rfl; rfl; rfl))
             | (((with_reducible apply go_fieldAddr_own); rfl; rfl; rfl))
             | (((with_reducible apply go_index_nat); rfl; rfl; (with_reducible rfl); (intro; rfl); rfl; omega; (intro hlt)))
             | ((with_reducible (show evOp _ (.binOp _ _ _ _ _) _ _ _ _)) ; first | ((with_reducible apply go_cmp); rfl; rfl; rfl; rfl) | ((with_reducible apply go_add); rfl; rfl; rfl; omega))
             | (((with_reducible apply go_len); rfl; rfl))
             | (((with_reducible apply go_not); rfl; rfl))
             | (((with_reducible apply go_pick); rfl; rfl; rfl)))
           | ((with_reducible (show evOps _ _ _ _ _ _)); first
             | (with_reducible apply go_nil)
             | ((with_reducible apply go_run); rfl; rfl))
           | ((with_reducible (show evG _ _ _ _ _)); first
             | (with_reducible apply go_seq)
             | (with_reducible apply go_region)
             | (((with_reducible apply go_cond); rfl) <;> (intro h; simp only [h]; try simp only [decide_eq_true_eq, decide_eq_false_iff_not, Bool.not_eq_true', Bool.not_eq_false', Bool.not_true, Bool.not_false] at h; try exact absurd trivial h))
             | (with_reducible apply go_ret)
             | (with_reducible apply go_skipc)
             | (with_reducible apply go_block)
             | (with_reducible apply go_exit))
           | (with_reducible apply go_kseq)
           | (with_reducible apply go_kblock)
           | (with_reducible apply go_kblock_exit)
           | (with_reducible apply go_kseq_exit)
           | ((with_reducible apply end_bool); rfl)
        all_goals first
          | exact absurd hlm (by omega)
          | (refine ⟨by omega, trivial, ?_⟩
             show Entails _ ⟨[(22, .int .i64 (m + 1 : Nat)), (21, .bool (frE s.carry (m + 1))), (20, .op 1 0 0), (9, .int .i64 st.sum), (2, .op 0 0 0)], [(0, ⟨4, true, [encYard s]⟩), (1, ⟨4, true, [encBal B]⟩)], 64, 198⟩
             rw [hfa]
             exact entails_eq (nx := 64) (k := 0) (ns := []) (ks := [22, 21, 20, 9, 2]) [(0, 0), (1, 1)] rfl (by simp) (by kernel_rfl))
          | trace_state
    · have em : m = s.carry.length := by omega
      have hz : frE s.carry m = true → B.bulked = st.sum := fun hh => hfr fun c hc => by
        rw [em] at hh
        unfold frE at hh
        rw [List.take_length] at hh
        exact of_decide_eq_true (List.all_eq_true.1 hh c hc)
      generalize frE s.carry m = q at *
      repeat' first
           | (with_reducible apply go_op)
           | (with_reducible apply go_next)
           | ((with_reducible (show evOp _ _ _ _ _ _)); first
             | ((with_reducible (show evOp _ (.move _) _ _ _ _)) ; first | ((with_reducible apply go_mv_int); rfl; rfl) | ((with_reducible apply go_mv_bool); rfl; rfl))
             | ((with_reducible apply go_as))
             | ((with_reducible (show evOp _ (.load _ _) _ _ _ _)) ; first | ((with_reducible apply go_load); rfl; rfl; rfl) | ((with_reducible apply go_load_own); rfl; rfl; rfl; rfl))
             | (((with_reducible apply go_fieldAddr_own); rfl; rfl; rfl))
             | (((with_reducible apply go_index_nat); rfl; rfl; (with_reducible rfl); (intro; rfl); rfl; omega; (intro hlt)))
             | ((with_reducible (show evOp _ (.binOp _ _ _ _ _) _ _ _ _)) ; first | ((with_reducible apply go_cmp); rfl; rfl; rfl; rfl) | ((with_reducible apply go_add); rfl; rfl; rfl; omega))
             | (((with_reducible apply go_len); rfl; rfl))
             | (((with_reducible apply go_not); rfl; rfl))
             | (((with_reducible apply go_pick); rfl; rfl; rfl)))
           | ((with_reducible (show evOps _ _ _ _ _ _)); first
             | (with_reducible apply go_nil)
             | ((with_reducible apply go_run); rfl; rfl)
             | ((with_reducible apply go_pass); rfl; rfl; rfl)
             | (((with_reducible apply go_guard); rfl) <;> (intro h; simp only [h, Bool.not_true, Bool.not_false]; (try with_reducible (refine ⟨rfl, ?_⟩)); try simp only [decide_eq_true_eq, decide_eq_false_iff_not, Bool.not_eq_true', Bool.not_eq_false', Bool.not_true, Bool.not_false] at h; try exact absurd trivial h)))
           | ((with_reducible (show evG _ _ _ _ _)); first
             | (with_reducible apply go_seq)
             | (with_reducible apply go_region)
             | (((with_reducible apply go_cond); rfl) <;> (intro h; simp only [h]; try simp only [decide_eq_true_eq, decide_eq_false_iff_not, Bool.not_eq_true', Bool.not_eq_false', Bool.not_true, Bool.not_false] at h; try exact absurd trivial h))
             | (with_reducible apply go_ret)
             | (with_reducible apply go_skipc)
             | (with_reducible apply go_block)
             | (with_reducible apply go_exit))
           | (with_reducible apply go_kseq)
           | (with_reducible apply go_kblock)
           | (with_reducible apply go_kblock_exit)
           | (with_reducible apply go_kseq_exit)
           | ((with_reducible apply end_bool); rfl)
           | (with_reducible rfl)
      all_goals first
        | exact absurd hlm (by omega)
        | exact (decide_eq_true (hz (by assumption)))
        | exact (decide_eq_true (hz (by assumption))).symm
        | (exfalso; have := hz (by assumption); omega)
        | rfl
        | (cases q with
           | false => rfl
           | true => have := hz rfl; simp [this])
        | trace_state
end Go.Pv.Soil

open Go Go.Proofs Go.Pv
set_option maxHeartbeats 4000000
set_option maxRecDepth 100000
set_option linter.unusedSimpArgs false
set_option linter.unusedVariables false
namespace Go.Pv.Soil
def tipY : Yard := ⟨[⟨"Near".toUTF8, 10000, -500, -450, [0], 100⟩, ⟨"Far".toUTF8, 10000, -900, -800, [0, 1], 400⟩], [⟨"sand".toUTF8, 6, 5⟩], [], [0]⟩
def loadsL : List Batch := [⟨1, 500001, 0, "sand".toUTF8, 0⟩, ⟨2, 300003, 1000, "sand".toUTF8, 1⟩]
theorem k_loads : Contract Try.prog 6 [] (.ret (.sl (loadsL.map encBatch))) := by
  refine contract_of mix Try.func6 rfl rfl (by rw [Try.ntmps6]; exact Nat.le_of_ble_eq_true rfl) ?_; rw [Try.results6, Try.ntmps6]; simp only [argsE, Nat.reduceAdd]
  repeat' first
           | (with_reducible apply go_op)
           | (with_reducible apply go_next)
           | ((with_reducible (show evOp _ _ _ _ _ _)); first
             | ((with_reducible (show evOp _ (.move _) _ _ _ _)) ; first | ((with_reducible apply go_mv_os); rfl; rfl) | ((with_reducible apply go_mv_nilsl); rfl; rfl))
             | ((with_reducible apply go_as))
             | (((with_reducible apply go_build); rfl; rfl))
             | (((with_reducible apply go_bs2_agg); rfl; rfl; rfl; rfl; rfl; rfl; rfl; rfl)))
           | ((with_reducible (show evOps _ _ _ _ _ _)); first
             | (with_reducible apply go_nil))
           | ((with_reducible (show evG _ _ _ _ _)); first
             | (with_reducible apply go_seq)
             | (with_reducible apply go_region)
             | (with_reducible apply go_ret))
           | (with_reducible apply go_kseq)
  exact finK_ret (.inl ⟨[.pure], [.os 96 0 2], [.sl (loadsL.map encBatch)], by kernel_rfl, by simp [frsOf], ⟨by show pur _ 64 _ = some _; kernel_rfl, trivial⟩, rfl, fun _ => rfl⟩)
theorem k_tip : Contract Try.prog 5 [] (.ret (.agg (encYard tipY))) := by
  refine contract_of mix Try.func5 rfl rfl (by rw [Try.ntmps5]; exact Nat.le_of_ble_eq_true rfl) ?_; rw [Try.results5, Try.ntmps5]; simp only [argsE, Nat.reduceAdd]
  repeat' first
           | (with_reducible apply go_op)
           | (with_reducible apply go_next)
           | ((with_reducible (show evOp _ _ _ _ _ _)); first
             | (((with_reducible apply go_st_agg); rfl; rfl; rfl; rfl; rfl; rfl; rfl))
             | ((with_reducible (show evOp _ (.build _ _) _ _ _ _)) ; first | ((with_reducible apply go_bd2_int); rfl; rfl; rfl; rfl) | ((with_reducible apply go_build); rfl; rfl))
             | (((with_reducible apply go_alloc); rfl; rfl; rfl))
             | ((with_reducible (show evOp _ (.buildSlice _ _ _) _ _ _ _)) ; first | ((with_reducible apply go_bs1_int); rfl; rfl; rfl) | ((with_reducible apply go_bs1_agg); rfl; rfl; rfl; rfl; rfl; rfl) | ((with_reducible apply go_bs2_int); rfl; rfl; rfl; rfl) | ((with_reducible apply go_bs2_agg); rfl; rfl; rfl; rfl; rfl; rfl; rfl; rfl)))
           | ((with_reducible (show evOps _ _ _ _ _ _)); first
             | (with_reducible apply go_nil))
           | ((with_reducible (show evG _ _ _ _ _)); first
             | (with_reducible apply go_seq)
             | (with_reducible apply go_region)
             | (with_reducible apply go_ret))
           | (with_reducible apply go_kseq)
  exact finK_ret (.inl ⟨[.pure], [.agg [.os 160 0 2, .os 256 0 1, .nilsl, .os 288 0 1]], [.agg (encYard tipY)], by kernel_rfl, by simp [frsOf], ⟨by show pur _ 64 _ = some _; kernel_rfl, trivial⟩, rfl, fun _ => rfl⟩)
theorem tip_ok : OkYard tipY := checkR_ok (by decide +kernel) (by decide)
theorem tip_list : OkList tipY loadsL := by
  obtain ⟨h1, h2, h3, h4⟩ := listErr_ok (s := tipY) (l := loadsL) (most := 12) (by decide +kernel)
  exact ⟨tip_ok, h2, h3, h4, by decide⟩
end Go.Pv.Soil

open Go Go.Proofs Go.Pv
set_option maxHeartbeats 4000000
set_option maxRecDepth 100000
set_option linter.unusedSimpArgs false
set_option linter.unusedVariables false
namespace Go.Pv.Soil
theorem small_bd {s : Yard} (h : smallE s = true) : s.pits.length ≤ 12 ∧ s.bulk.length ≤ 25 ∧ s.carry.length ≤ 30 ∧ s.deps.length ≤ 205 ∧ ∀ p ∈ s.pits, p.classes.length ≤ 12 := by
  unfold smallE at h
  simp only [Bool.and_eq_true] at h
  obtain ⟨h1, h2, _, _⟩ := h
  have hb : ¬ bigE s := by simpa using h1
  unfold bigE at hb
  refine ⟨by omega, by omega, by omega, by omega, fun p hp => ?_⟩
  have := of_decide_eq_true (List.all_eq_true.1 h2 p hp)
  exact this.2
theorem few_bd {l : List Batch} (h : fewE l 8 = true) : l.length ≤ 8 := by
  unfold fewE at h
  simp only [Bool.and_eq_true] at h
  have := of_decide_eq_true h.2
  omega
theorem c_massKept (s : Yard) (l : List Batch) (h1 : s.pits.length ≤ 9223372036854775807) (h2 : s.bulk.length ≤ 9223372036854775807) (h3 : s.deps.length ≤ 9223372036854775807) (h4 : s.carry.length ≤ 9223372036854775807) (h5 : l.length ≤ 9223372036854775807) :
    Contract Try.prog 3 [.agg (encYard s), .sl (l.map encBatch)] (.ret (.bool true)) := by
  have g0 := k_kept tipY loadsL tip_list
  have g1 := r_Small s h1 h2 h3 h4
  have g2 := r_few l 8 h5
  by_cases hs : smallE s = true
  rotate_left
  · have hs' : smallE s = false := by simpa using hs
    rw [hs'] at g1
    refine contract_of mix Try.func3 rfl rfl (by rw [Try.ntmps3]; exact Nat.le_of_ble_eq_true rfl) ?_; rw [Try.results3, Try.ntmps3]; simp only [argsE, Nat.reduceAdd]
    repeat' first
           | (with_reducible apply go_op)
           | (with_reducible apply go_next)
           | ((with_reducible (show evOp _ _ _ _ _ _)); first
             | (((with_reducible apply go_mv_bool); rfl; rfl))
             | ((with_reducible apply go_as))
             | (((with_reducible apply go_ld_agg); rfl; rfl; rfl; rfl))
             | ((with_reducible (show evOp _ (.call _) _ _ _ _)) ; first | ((with_reducible apply go_fn_pr); rfl; rfl; (exact k_tip); rfl; (exact Nat.le_of_ble_eq_true rfl); rfl) | ((with_reducible apply go_fn_sl); rfl; rfl; (exact k_loads); rfl) | ((with_reducible apply go_fn_bool); rfl; (exact g0); rfl) | ((with_reducible apply go_fn_bool); rfl; (exact g1); rfl))
             | (((with_reducible apply go_not); rfl; rfl))
             | (((with_reducible apply go_pick); rfl; rfl; rfl))
             | (((with_reducible apply go_bx_agg); rfl; rfl; (exact Nat.le_of_ble_eq_true rfl); rfl; rfl)))
           | ((with_reducible (show evOps _ _ _ _ _ _)); first
             | (with_reducible apply go_nil)
             | ((with_reducible apply go_pass); rfl; rfl; rfl))
           | ((with_reducible (show evG _ _ _ _ _)); first
             | (with_reducible apply go_seq)
             | (with_reducible apply go_region)
             | ((with_reducible apply go_cond_t); rfl; rfl)
             | ((with_reducible apply go_cond_f); rfl; rfl)
             | (with_reducible apply go_ret)
             | (with_reducible apply go_skipc))
           | (with_reducible apply go_kseq)
           | (with_reducible apply go_kseq_ret)
           | ((with_reducible apply end_bool); rfl)
           | (with_reducible rfl)
    all_goals first | rfl | trace_state
  rw [hs] at g1
  obtain ⟨b1, b2, b3, b4, b5⟩ := small_bd hs
  by_cases hf : fewE l 8 = true
  rotate_left
  · have hf' : fewE l 8 = false := by simpa using hf
    rw [hf'] at g2
    refine contract_of mix Try.func3 rfl rfl (by rw [Try.ntmps3]; exact Nat.le_of_ble_eq_true rfl) ?_; rw [Try.results3, Try.ntmps3]; simp only [argsE, Nat.reduceAdd]
    repeat' first
           | (with_reducible apply go_op)
           | (with_reducible apply go_next)
           | ((with_reducible (show evOp _ _ _ _ _ _)); first
             | ((with_reducible (show evOp _ (.move _) _ _ _ _)) ; first | ((with_reducible apply go_mv_bool); rfl; rfl) | ((with_reducible apply go_mv_sl); rfl; rfl))
             | ((with_reducible apply go_as))
             | (((with_reducible apply go_ld_agg); rfl; rfl; rfl; rfl))
             | ((with_reducible (show evOp _ (.call _) _ _ _ _)) ; first | ((with_reducible apply go_fn_pr); rfl; rfl; (exact k_tip); rfl; (exact Nat.le_of_ble_eq_true rfl); rfl) | ((with_reducible apply go_fn_sl); rfl; rfl; (exact k_loads); rfl) | ((with_reducible apply go_fn_bool); rfl; (exact g0); rfl) | ((with_reducible apply go_fn_bool); rfl; (exact g1); rfl) | ((with_reducible apply go_fn_bool); rfl; (exact g2); rfl))
             | (((with_reducible apply go_not); rfl; rfl))
             | (((with_reducible apply go_pick); rfl; rfl; rfl))
             | (((with_reducible apply go_bx_agg); rfl; rfl; (exact Nat.le_of_ble_eq_true rfl); rfl; rfl)))
           | ((with_reducible (show evOps _ _ _ _ _ _)); first
             | (with_reducible apply go_nil)
             | ((with_reducible apply go_run); rfl; rfl)
             | ((with_reducible apply go_pass); rfl; rfl; rfl))
           | ((with_reducible (show evG _ _ _ _ _)); first
             | (with_reducible apply go_seq)
             | (with_reducible apply go_region)
             | ((with_reducible apply go_cond_t); rfl; rfl)
             | ((with_reducible apply go_cond_f); rfl; rfl)
             | (with_reducible apply go_ret)
             | (with_reducible apply go_skipc))
           | (with_reducible apply go_kseq)
           | (with_reducible apply go_kseq_ret)
           | ((with_reducible apply end_bool); rfl)
           | (with_reducible rfl)
    all_goals first | rfl | trace_state
  rw [hf] at g2
  have bl := few_bd hf
  have g3 := r_Check s (by omega) (by omega) (by omega) (by omega) (fun p hp => by have := b5 p hp; omega)
  have g4 := r_ListErr s l 12 (by omega) (by omega) (by omega)
  by_cases hc : checkRE s = 0
  rotate_left
  · refine contract_of mix Try.func3 rfl rfl (by rw [Try.ntmps3]; exact Nat.le_of_ble_eq_true rfl) ?_; rw [Try.results3, Try.ntmps3]; simp only [argsE, Nat.reduceAdd]
    repeat' first
           | (with_reducible apply go_op)
           | (with_reducible apply go_next)
           | ((with_reducible (show evOp _ _ _ _ _ _)); first
             | ((with_reducible (show evOp _ (.move _) _ _ _ _)) ; first | ((with_reducible apply go_mv_bool); rfl; rfl) | ((with_reducible apply go_mv_sl); rfl; rfl))
             | ((with_reducible apply go_as))
             | (((with_reducible apply go_ld_agg); rfl; rfl; rfl; rfl))
             | (((with_reducible apply go_cmp); rfl; rfl; rfl; rfl))
             | ((with_reducible (show evOp _ (.call _) _ _ _ _)) ; first | ((with_reducible apply go_fn_pr); rfl; rfl; (exact k_tip); rfl; (exact Nat.le_of_ble_eq_true rfl); rfl) | ((with_reducible apply go_fn_sl); rfl; rfl; (exact k_loads); rfl) | ((with_reducible apply go_fn_bool); rfl; (exact g0); rfl) | ((with_reducible apply go_fn_bool); rfl; (exact g1); rfl) | ((with_reducible apply go_fn_bool); rfl; (exact g2); rfl) | ((with_reducible apply go_fn_int); rfl; (exact g3); rfl))
             | (((with_reducible apply go_not); rfl; rfl))
             | (((with_reducible apply go_pick); rfl; rfl; rfl))
             | (((with_reducible apply go_bx_agg); rfl; rfl; (exact Nat.le_of_ble_eq_true rfl); rfl; rfl)))
           | ((with_reducible (show evOps _ _ _ _ _ _)); first
             | (with_reducible apply go_nil)
             | ((with_reducible apply go_run); rfl; rfl)
             | ((with_reducible apply go_pass); rfl; rfl; rfl)
             | (((with_reducible apply go_guard); rfl) <;> (intro h; simp only [h, Bool.not_true, Bool.not_false]; (try with_reducible (refine ⟨rfl, ?_⟩)); try simp only [decide_eq_true_eq, decide_eq_false_iff_not, Bool.not_eq_true', Bool.not_eq_false', Bool.not_true, Bool.not_false] at h; try exact absurd trivial h)))
           | ((with_reducible (show evG _ _ _ _ _)); first
             | (with_reducible apply go_seq)
             | (with_reducible apply go_region)
             | ((with_reducible apply go_cond_t); rfl; rfl)
             | ((with_reducible apply go_cond_f); rfl; rfl)
             | (with_reducible apply go_ret)
             | (with_reducible apply go_skipc))
           | (with_reducible apply go_kseq)
           | (with_reducible apply go_kseq_ret)
           | ((with_reducible apply end_bool); rfl)
           | (with_reducible rfl)
    all_goals first | rfl | exact absurd (by assumption) hc | (exfalso; omega) | trace_state
  rw [hc] at g3
  have hok := checkR_ok hc (fun p hp => by have := b5 p hp; omega)
  by_cases hl : listErrE s l 12 = 0
  rotate_left
  · refine contract_of mix Try.func3 rfl rfl (by rw [Try.ntmps3]; exact Nat.le_of_ble_eq_true rfl) ?_; rw [Try.results3, Try.ntmps3]; simp only [argsE, Nat.reduceAdd]
    repeat' first
           | (with_reducible apply go_op)
           | (with_reducible apply go_next)
           | ((with_reducible (show evOp _ _ _ _ _ _)); first
             | ((with_reducible (show evOp _ (.move _) _ _ _ _)) ; first | ((with_reducible apply go_mv_bool); rfl; rfl) | ((with_reducible apply go_mv_sl); rfl; rfl))
             | ((with_reducible apply go_as))
             | (((with_reducible apply go_ld_agg); rfl; rfl; rfl; rfl))
             | (((with_reducible apply go_cmp); rfl; rfl; rfl; rfl))
             | ((with_reducible (show evOp _ (.call _) _ _ _ _)) ; first | ((with_reducible apply go_fn_pr); rfl; rfl; (exact k_tip); rfl; (exact Nat.le_of_ble_eq_true rfl); rfl) | ((with_reducible apply go_fn_sl); rfl; rfl; (exact k_loads); rfl) | ((with_reducible apply go_fn_bool); rfl; (exact g0); rfl) | ((with_reducible apply go_fn_bool); rfl; (exact g1); rfl) | ((with_reducible apply go_fn_bool); rfl; (exact g2); rfl) | ((with_reducible apply go_fn_int); rfl; (exact g3); rfl) | ((with_reducible apply go_fn_int); rfl; (exact g4); rfl))
             | (((with_reducible apply go_not); rfl; rfl))
             | (((with_reducible apply go_pick); rfl; rfl; rfl))
             | (((with_reducible apply go_bx_agg); rfl; rfl; (exact Nat.le_of_ble_eq_true rfl); rfl; rfl)))
           | ((with_reducible (show evOps _ _ _ _ _ _)); first
             | (with_reducible apply go_nil)
             | ((with_reducible apply go_run); rfl; rfl))
           | ((with_reducible (show evG _ _ _ _ _)); first
             | (with_reducible apply go_seq)
             | (with_reducible apply go_region)
             | ((with_reducible apply go_cond_f); rfl; rfl)
             | (((with_reducible apply go_cond); rfl) <;> (intro h; simp only [h]; try simp only [decide_eq_true_eq, decide_eq_false_iff_not, Bool.not_eq_true', Bool.not_eq_false', Bool.not_true, Bool.not_false] at h; try exact absurd trivial h))
             | (with_reducible apply go_ret)
             | (with_reducible apply go_skipc))
           | (with_reducible apply go_kseq)
           | (with_reducible apply go_kseq_ret)
           | ((with_reducible apply end_bool); rfl)
           | (with_reducible rfl)
    all_goals first | rfl | exact absurd (by assumption) hl | (exfalso; omega) | trace_state
  rw [hl] at g4
  obtain ⟨e1, e2, e3, e4⟩ := listErr_ok hl
  have g5 := k_kept s l ⟨hok, e2, e3, e4, by omega⟩
  refine contract_of mix Try.func3 rfl rfl (by rw [Try.ntmps3]; exact Nat.le_of_ble_eq_true rfl) ?_; rw [Try.results3, Try.ntmps3]; simp only [argsE, Nat.reduceAdd]
  repeat' first
           | (with_reducible apply go_op)
           | (with_reducible apply go_next)
           | ((with_reducible (show evOp _ _ _ _ _ _)); first
             | ((with_reducible (show evOp _ (.move _) _ _ _ _)) ; first | ((with_reducible apply go_mv_bool); rfl; rfl) | ((with_reducible apply go_mv_sl); rfl; rfl))
             | ((with_reducible apply go_as))
             | (((with_reducible apply go_ld_agg); rfl; rfl; rfl; rfl))
             | (((with_reducible apply go_cmp); rfl; rfl; rfl; rfl))
             | ((with_reducible (show evOp _ (.call _) _ _ _ _)) ; first | ((with_reducible apply go_fn_pr); rfl; rfl; (exact k_tip); rfl; (exact Nat.le_of_ble_eq_true rfl); rfl) | ((with_reducible apply go_fn_sl); rfl; rfl; (exact k_loads); rfl) | ((with_reducible apply go_fn_bool); rfl; (exact g0); rfl) | ((with_reducible apply go_fn_bool); rfl; (exact g1); rfl) | ((with_reducible apply go_fn_bool); rfl; (exact g2); rfl) | ((with_reducible apply go_fn_int); rfl; (exact g3); rfl) | ((with_reducible apply go_fn_int); rfl; (exact g4); rfl) | ((with_reducible apply go_fn_bool); rfl; (exact g5); rfl))
             | (((with_reducible apply go_not); rfl; rfl))
             | (((with_reducible apply go_pick); rfl; rfl; rfl))
             | (((with_reducible apply go_bx_agg); rfl; rfl; (exact Nat.le_of_ble_eq_true rfl); rfl; rfl)))
           | ((with_reducible (show evOps _ _ _ _ _ _)); first
             | (with_reducible apply go_nil)
             | ((with_reducible apply go_run); rfl; rfl))
           | ((with_reducible (show evG _ _ _ _ _)); first
             | (with_reducible apply go_seq)
             | (with_reducible apply go_region)
             | ((with_reducible apply go_cond_f); rfl; rfl)
             | (with_reducible apply go_ret)
             | (with_reducible apply go_skipc))
           | (with_reducible apply go_kseq)
           | ((with_reducible apply end_bool); rfl)
           | (with_reducible rfl)
  all_goals first | rfl | (exfalso; omega) | trace_state
end Go.Pv.Soil

open Go Go.Proofs Go.Pv
set_option maxHeartbeats 1000000
set_option maxRecDepth 100000
set_option linter.unusedVariables false
namespace Go.Pv.Soil
theorem own : ownKnob Try.prog.godebug = none := by kernel_rfl
theorem laidOut : laidOutB Try.prog = true := by kernel_rfl
theorem rInt : Reads Try.prog 3 I64 (fun n => [.int .i64 n]) := reads_i64 Try.underlying3 (by kernel_rfl)
theorem rStr : Reads Try.prog 9 (fun s : ByteArray => s.size ≤ maxLen) (fun s => [.str s]) := reads_str Try.underlying9 (by kernel_rfl)
theorem rInts : Reads Try.prog 25 (fun l : List Int => l.length ≤ maxLen ∧ ∀ a ∈ l, I64 a) (fun l => [.sl (l.map encI)]) := reads_slice Try.underlying25 rInt (k := 1) (by kernel_rfl) (by decide) (by kernel_rfl)
theorem rPit : Reads Try.prog 58 (fun _ : Pit => True) encPit :=
  (reads_struct Try.underlying58 (by kernel_rfl) (readsF_cons (k := 1) rStr (by kernel_rfl) rfl (readsF_cons (k := 1) rInt (by kernel_rfl) rfl (readsF_cons (k := 1) rInt (by kernel_rfl) rfl (readsF_cons (k := 1) rInt (by kernel_rfl) rfl
    (readsF_cons (k := 1) rInts (by kernel_rfl) rfl (readsF_cons (k := 1) rInt (by kernel_rfl) rfl readsF_nil))))))).map
    (fun x => ⟨x.1, x.2.1, x.2.2.1, x.2.2.2.1, x.2.2.2.2.1, x.2.2.2.2.2.1⟩) (fun _ _ => rfl) (fun _ h => trivial) fun _ _ => by kernel_rfl
theorem rPits : Reads Try.prog 22 (fun l : List Pit => l.length ≤ maxLen ∧ ∀ a ∈ l, True) (fun l => [.sl (l.map encPit)]) := reads_slice Try.underlying22 rPit (k := 6) (by kernel_rfl) (by decide) (by kernel_rfl)
theorem rBulk : Reads Try.prog 51 (fun _ : Bulk => True) encBulk :=
  (reads_struct Try.underlying51 (by kernel_rfl) (readsF_cons (k := 1) rStr (by kernel_rfl) rfl
    (readsF_cons (k := 2) (reads_struct Try.underlying49 (by kernel_rfl) (readsF_cons (k := 1) rInt (by kernel_rfl) rfl (readsF_cons (k := 1) rInt (by kernel_rfl) rfl readsF_nil))) (by kernel_rfl) rfl readsF_nil))).map
    (fun x => ⟨x.1, x.2.1.1, x.2.1.2.1⟩) (fun _ _ => rfl) (fun _ h => trivial) fun _ _ => by kernel_rfl
theorem rBulks : Reads Try.prog 23 (fun l : List Bulk => l.length ≤ maxLen ∧ ∀ a ∈ l, True) (fun l => [.sl (l.map encBulk)]) := reads_slice Try.underlying23 rBulk (k := 3) (by kernel_rfl) (by decide) (by kernel_rfl)
theorem rDep : Reads Try.prog 60 (fun _ : Dep => True) encDep :=
  (reads_struct Try.underlying60 (by kernel_rfl) (readsF_cons (k := 1) rInt (by kernel_rfl) rfl (readsF_cons (k := 1) rStr (by kernel_rfl) rfl (readsF_cons (k := 1) rInt (by kernel_rfl) rfl readsF_nil)))).map
    (fun x => ⟨x.1, x.2.1, x.2.2.1⟩) (fun _ _ => rfl) (fun _ h => trivial) fun _ _ => by kernel_rfl
theorem rDeps : Reads Try.prog 24 (fun l : List Dep => l.length ≤ maxLen ∧ ∀ a ∈ l, True) (fun l => [.sl (l.map encDep)]) := reads_slice Try.underlying24 rDep (k := 3) (by kernel_rfl) (by decide) (by kernel_rfl)
theorem rBatch : Reads Try.prog 44 (fun _ : Batch => True) encBatch :=
  (reads_struct Try.underlying44 (by kernel_rfl) (readsF_cons (k := 1) rInt (by kernel_rfl) rfl (readsF_cons (k := 1) rInt (by kernel_rfl) rfl (readsF_cons (k := 1) rInt (by kernel_rfl) rfl (readsF_cons (k := 1) rStr (by kernel_rfl) rfl
    (readsF_cons (k := 1) rInt (by kernel_rfl) rfl readsF_nil)))))).map
    (fun x => ⟨x.1, x.2.1, x.2.2.1, x.2.2.2.1, x.2.2.2.2.1⟩) (fun _ _ => rfl) (fun _ h => trivial) fun _ _ => by kernel_rfl
theorem rBatches : Reads Try.prog 28 (fun l : List Batch => l.length ≤ maxLen ∧ ∀ a ∈ l, True) (fun l => [.sl (l.map encBatch)]) := reads_slice Try.underlying28 rBatch (k := 5) (by kernel_rfl) (by decide) (by kernel_rfl)
theorem rYard : Reads Try.prog 27 (fun s : Yard => s.pits.length ≤ maxLen ∧ s.bulk.length ≤ maxLen ∧ s.deps.length ≤ maxLen ∧ s.carry.length ≤ maxLen) encYard :=
  (reads_struct Try.underlying27 (by kernel_rfl) (readsF_cons (k := 1) rPits (by kernel_rfl) rfl (readsF_cons (k := 1) rBulks (by kernel_rfl) rfl (readsF_cons (k := 1) rDeps (by kernel_rfl) rfl (readsF_cons (k := 1) rInts (by kernel_rfl) rfl readsF_nil))))).map
    (fun x => ⟨x.1, x.2.1, x.2.2.1, x.2.2.2.1⟩) (fun _ _ => rfl) (fun _ h => ⟨h.1.1, h.2.1.1, h.2.2.1.1, h.2.2.2.1.1⟩) fun _ _ => by kernel_rfl
theorem aYard : ReadsA Try.prog [27, 28] (fun x : Yard × List Batch => (x.1.pits.length ≤ 9223372036854775807 ∧ x.1.bulk.length ≤ 9223372036854775807 ∧ x.1.deps.length ≤ 9223372036854775807 ∧ x.1.carry.length ≤ 9223372036854775807) ∧ x.2.length ≤ 9223372036854775807)
    (fun x => [.agg (encYard x.1), .sl (x.2.map encBatch)]) :=
  (readsA_cons Try.underlying27 rYard (g := fun s => .agg (encYard s)) (.inr ⟨rfl, fun _ => rfl⟩) (readsA_cons Try.underlying28 rBatches (g := fun l => .sl (l.map encBatch)) (.inl ⟨rfl, fun _ => rfl⟩) readsA_nil)).map
    (fun x => (x.1, x.2.1)) (fun _ _ => rfl) (fun _ h => ⟨⟨Nat.le_trans h.1.1 (by decide), Nat.le_trans h.1.2.1 (by decide), Nat.le_trans h.1.2.2.1 (by decide), Nat.le_trans h.1.2.2.2 (by decide)⟩, Nat.le_trans h.2.1.1 (by decide)⟩)
theorem lawMass (x : Yard × List Batch) (hx : (x.1.pits.length ≤ 9223372036854775807 ∧ x.1.bulk.length ≤ 9223372036854775807 ∧ x.1.deps.length ≤ 9223372036854775807 ∧ x.1.carry.length ≤ 9223372036854775807) ∧ x.2.length ≤ 9223372036854775807) :
    Contract Try.prog 3 [.agg (encYard x.1), .sl (x.2.map encBatch)] (.ret (.bool true)) := c_massKept x.1 x.2 hx.1.1 hx.1.2.1 hx.1.2.2.1 hx.1.2.2.2 hx.2
end Go.Pv.Soil

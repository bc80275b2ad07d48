import Derived.Test.YtbojgmhpmcnfjaaProg
import Derived.Test.YtbojgmhpmcnfjaaGG
import Derived.KernelRfl
/- Part of the proofs over Ytbojgmhpmcnfjaa: H12, H13. -/
set_option linter.unusedVariables false
set_option linter.unusedSimpArgs false
set_option linter.unnecessarySimpa false
open Go Go.Proofs Go.Pv
set_option maxHeartbeats 4000000
set_option maxRecDepth 100000
set_option linter.unusedSimpArgs false
set_option linter.unusedVariables false
namespace Go.Pv.Geo
theorem on_first (a b : Pt) : onE a b a = true := by
  rw [onE, decide_eq_true_eq]
  exact ⟨by simp [crossE], by omega, by omega⟩
theorem meet_first (a b d : Pt) : meetE a b a d = true := by simp [meetE, on_first]
theorem simple_dup {l : List Pt} {k i : Nat} (hk : k < i) (hi : i < l.length) (h : l[i] = l[k]) : simpleE l = false := by
  have e1 : cornerP l k = l[k] := cornerP_lt (by omega)
  have e2 : cornerP l i = l[i] := cornerP_lt hi
  by_cases h1 : i = k + 1
  · subst h1
    exact simple_turn (i := k) (by omega) (by simp only [turnBad]; rw [e1, e2, h, ptEq_iff.2 rfl]; simp)
  by_cases h2 : (i + 1) % l.length = k
  · have hn : i + 1 = l.length := by
      rcases Nat.lt_or_ge (i + 1) l.length with hlt | hge
      · rw [Nat.mod_eq_of_lt hlt] at h2; omega
      · omega
    rw [hn, Nat.mod_self] at h2
    subst h2
    have e3 : cornerP l (i + 1) = l[0] := by
      rw [hn, cornerP_get (by omega)]; simp
    exact simple_turn (i := i) hi (by simp only [turnBad]; rw [e2, e3, h, ptEq_iff.2 rfl]; simp)
  · exact simple_pair (i := k) (k := i) (by omega) hi (by omega) (by
      simp only [pairBad, Bool.and_eq_true, decide_eq_true_eq]
      refine ⟨h2, ?_⟩
      rw [e1, e2, h]; exact meet_first _ _ _)
def rturn (l : List Pt) (i : Nat) : Bool := onE (cornerP l i) (cornerP l (i + 1)) (cornerP l (i + 2)) || onE (cornerP l (i + 1)) (cornerP l (i + 2)) (cornerP l i)
theorem rturn_bad {l : List Pt} {i : Nat} (h : rturn l i = true) : turnBad l i = true := by
  simp only [rturn, turnBad, Bool.or_eq_true] at *; rcases h with h | h <;> simp [h]
theorem turn_ok {l : List Pt} {i : Nat} (h3 : 3 ≤ l.length) (hi : i < l.length) (hd : ∀ i (hi : i < l.length), ∀ k (hk : k < i), l[i] ≠ l[k]) (h : rturn l i = false) : turnBad l i = false := by
  simp only [rturn, turnBad, Bool.or_eq_false_iff] at *
  refine ⟨⟨?_, h.1⟩, h.2⟩
  rw [Bool.eq_false_iff]
  intro he
  have he := ptEq_iff.1 he
  rw [cornerP_lt hi, cornerP_get (by omega)] at he
  rcases Nat.lt_or_ge (i + 1) l.length with hlt | hge
  · simp only [Nat.mod_eq_of_lt hlt] at he
    exact hd (i + 1) hlt i (by omega) he.symm
  · have hn : i + 1 = l.length := by omega
    simp only [hn, Nat.mod_self] at he
    exact hd i hi 0 (by omega) he

theorem c_rCheckPolygon (l : List Pt) : Contract Try.prog 45 [.sl (l.map encPt)] (.ret (.int .i64 (polyE l))) := by
  by_cases hb : 3 ≤ l.length ∧ l.length ≤ 40
  rotate_left
  · refine contract_of mix Try.func45 rfl rfl (by rw [Try.ntmps45]; exact Nat.le_of_ble_eq_true rfl) ?_; rw [Try.results45, Try.ntmps45]; simp only [argsE, Nat.reduceAdd]
    repeat' first
           | (with_reducible apply go_op)
           | (with_reducible apply go_next)
           | ((with_reducible (show evOp _ _ _ _ _ _)); first
             | ((with_reducible (show evOp _ (.move _) _ _ _ _)) ; first | ((with_reducible apply go_mv_int); rfl; rfl) | ((with_reducible apply go_mv_sl); rfl; rfl))
             | ((with_reducible apply go_as))
             | (((with_reducible apply go_cmp); rfl; rfl; rfl; rfl))
             | (((with_reducible apply go_len); rfl; rfl)))
           | ((with_reducible (show evOps _ _ _ _ _ _)); first
             | (with_reducible apply go_nil))
           | ((with_reducible (show evG _ _ _ _ _)); first
             | (with_reducible apply go_seq)
             | (with_reducible apply go_region)
             | (((with_reducible apply go_cond); rfl) <;> (intro h; simp only [h]; try simp only [decide_eq_true_eq, decide_eq_false_iff_not, Bool.not_eq_true', Bool.not_eq_false', Bool.not_true, Bool.not_false] at h; try exact absurd trivial h))
             | (with_reducible apply go_ret)
             | (with_reducible apply go_skipc)
             | (with_reducible apply go_block))
           | (with_reducible apply go_kseq)
           | (with_reducible apply go_kseq_ret)
           | ((with_reducible apply end_int); rfl)
    · unfold polyE; rw [if_pos (by omega)]
    · unfold polyE; rw [if_neg (by omega), if_pos (by omega)]
    · exfalso; omega
  have hp4 : ∀ p ∈ l, ptOK p = false → polyE l = 2 := fun p hp ho => by
    unfold polyE; rw [if_neg (by omega), if_neg (by omega), if_pos (List.any_eq_true.2 ⟨p, hp, by rw [ho]; rfl⟩)]
  have hpo : (∀ p ∈ l, ptOK p = true) → polyE l = if simpleE l = true then 0 else 3 := fun h => by
    unfold polyE; rw [if_neg (by omega), if_neg (by omega), if_neg]
    simp only [List.any_eq_true, not_exists, not_and]
    intro q hq; rw [h q hq]; simp
  refine contract_of mix Try.func45 rfl rfl (by rw [Try.ntmps45]; exact Nat.le_of_ble_eq_true rfl) ?_; rw [Try.results45, Try.ntmps45]; simp only [argsE, Nat.reduceAdd]
  repeat' first
           | (with_reducible apply go_op)
           | (with_reducible apply go_next)
           | ((with_reducible (show evOp _ _ _ _ _ _)); first
             | ((with_reducible (show evOp _ (.move _) _ _ _ _)) ; first | ((with_reducible apply go_mv_int); rfl; rfl) | ((with_reducible apply go_mv_sl); rfl; rfl))
             | ((with_reducible apply go_as))
             | (((with_reducible apply go_cmp); rfl; rfl; rfl; rfl))
             | (((with_reducible apply go_len); rfl; rfl)))
           | ((with_reducible (show evOps _ _ _ _ _ _)); first
             | (with_reducible apply go_nil))
           | ((with_reducible (show evG _ _ _ _ _)); first
             | (with_reducible apply go_seq)
             | (with_reducible apply go_region)
             | (((with_reducible apply go_cond); rfl) <;> (intro h; simp only [h]; try simp only [decide_eq_true_eq, decide_eq_false_iff_not, Bool.not_eq_true', Bool.not_eq_false', Bool.not_true, Bool.not_false] at h; try exact absurd trivial h))
             | (with_reducible apply go_ret)
             | (with_reducible apply go_skipc)
             | (with_reducible apply go_block))
           | (with_reducible apply go_kseq)
           | (with_reducible apply go_kseq_ret)
           | ((with_reducible apply end_int); rfl)
  all_goals try (exfalso; omega)
  refine go_count (l.length) (fun i => ⟨[(3, .int .i64 i), (0, .sl (l.map encPt))], [], 0, 102⟩) (fun i => ∀ j (hj : j < i) (hj' : j < l.length), ptOK l[j] = true) (entails_eq (k := 0) (ns := []) (ks := [3, 0]) [] rfl (by simp) rfl) (by omega) ?_
  intro i hi hC
  by_cases h2 : i < l.length
  · have g := c_good l[i]
    cases hp : ptOK l[i]
    · rw [hp] at g
      have e := hp4 _ (List.getElem_mem h2) hp
      repeat' first
           | (with_reducible apply go_op)
           | (with_reducible apply go_next)
           | ((with_reducible (show evOp _ _ _ _ _ _)); first
             | ((with_reducible (show evOp _ (.move _) _ _ _ _)) ; first | ((with_reducible apply go_mv_int); rfl; rfl) | ((with_reducible apply go_mv_sl); rfl; rfl))
             | ((with_reducible apply go_as))
             | (((with_reducible apply go_ld_ptr); rfl; rfl; rfl))
             | (((with_reducible apply go_index_nat); rfl; rfl; (with_reducible rfl); (intro; rfl); rfl; omega; (intro hlt)))
             | (((with_reducible apply go_cmp); rfl; rfl; rfl; rfl))
             | ((with_reducible (show evOp _ (.call _) _ _ _ _)) ; first | ((with_reducible apply go_len); rfl; rfl) | ((with_reducible apply go_fn_bool); rfl; (exact g); rfl))
             | (((with_reducible apply go_not); rfl; rfl)))
           | ((with_reducible (show evOps _ _ _ _ _ _)); first
             | (with_reducible apply go_nil))
           | ((with_reducible (show evG _ _ _ _ _)); first
             | (with_reducible apply go_seq)
             | (with_reducible apply go_region)
             | ((with_reducible apply go_cond_t); rfl; rfl)
             | (((with_reducible apply go_cond); rfl) <;> (intro h; simp only [h]; try simp only [decide_eq_true_eq, decide_eq_false_iff_not, Bool.not_eq_true', Bool.not_eq_false', Bool.not_true, Bool.not_false] at h; try exact absurd trivial h))
             | (with_reducible apply go_ret)
             | (with_reducible apply go_skipc)
             | (with_reducible apply go_block)
             | (with_reducible apply go_exit))
           | (with_reducible apply go_kseq)
           | (with_reducible apply go_kseq_ret)
           | (with_reducible apply go_kblock_ret)
           | (with_reducible apply go_kblock_exit)
           | (with_reducible apply go_kseq_exit)
           | ((with_reducible apply end_int); rfl)
      all_goals first | (exfalso; omega) | exact e.symm
    · rw [hp] at g
      repeat' first
           | (with_reducible apply go_op)
           | (with_reducible apply go_next)
           | ((with_reducible (show evOp _ _ _ _ _ _)); first
             | ((with_reducible (show evOp _ (.move _) _ _ _ _)) ; first | ((with_reducible apply go_mv_int); rfl; rfl) | ((with_reducible apply go_mv_sl); rfl; rfl))
             | ((with_reducible apply go_as))
             | (((with_reducible apply go_ld_ptr); rfl; rfl; rfl))
             | (((with_reducible apply go_index_nat); rfl; rfl; (with_reducible rfl); (intro; rfl); rfl; omega; (intro hlt)))
             | ((with_reducible (show evOp _ (.binOp _ _ _ _ _) _ _ _ _)) ; first | ((with_reducible apply go_cmp); rfl; rfl; rfl; rfl) | ((with_reducible apply go_add); rfl; rfl; rfl; omega))
             | ((with_reducible (show evOp _ (.call _) _ _ _ _)) ; first | ((with_reducible apply go_len); rfl; rfl) | ((with_reducible apply go_fn_bool); rfl; (exact g); rfl))
             | (((with_reducible apply go_not); rfl; rfl)))
           | ((with_reducible (show evOps _ _ _ _ _ _)); first
             | (with_reducible apply go_nil))
           | ((with_reducible (show evG _ _ _ _ _)); first
             | (with_reducible apply go_seq)
             | (with_reducible apply go_region)
             | ((with_reducible apply go_cond_f); rfl; rfl)
             | (((with_reducible apply go_cond); rfl) <;> (intro h; simp only [h]; try simp only [decide_eq_true_eq, decide_eq_false_iff_not, Bool.not_eq_true', Bool.not_eq_false', Bool.not_true, Bool.not_false] at h; try exact absurd trivial h))
             | (with_reducible apply go_skipc)
             | (with_reducible apply go_block)
             | (with_reducible apply go_exit))
           | (with_reducible apply go_kseq)
           | (with_reducible apply go_kblock)
           | (with_reducible apply go_kblock_exit)
           | (with_reducible apply go_kseq_exit)
      all_goals first
        | (exfalso; omega)
        | (refine ⟨h2, fun j hj hj' => ?_, entails_eq (k := 0) (ns := []) (ks := [3, 0]) [] rfl (by simp) rfl⟩
           rcases Nat.lt_succ_iff_lt_or_eq.1 hj with h' | rfl
           · exact hC j h' hj'
           · exact hp)
  have hok : ∀ p ∈ l, ptOK p = true := fun p hp => by
    obtain ⟨j, hj, rfl⟩ := List.mem_iff_getElem.1 hp
    exact hC j (by omega) hj
  have hpe := hpo hok
  have h0 : 0 < l.length := by omega
  clear hpo hp4
  repeat' first
           | (with_reducible apply go_op)
           | (with_reducible apply go_next)
           | ((with_reducible (show evOp _ _ _ _ _ _)); first
             | ((with_reducible (show evOp _ (.move _) _ _ _ _)) ; first | ((with_reducible apply go_mv_int); rfl; rfl) | ((with_reducible apply go_mv_sl); rfl; rfl))
             | ((with_reducible apply go_as))
             | (((with_reducible apply go_ld_ptr); rfl; rfl; rfl))
             | (((with_reducible apply go_index_nat); rfl; rfl; (with_reducible rfl); (intro; rfl); rfl; omega; (intro hlt)))
             | (((with_reducible apply go_cmp); rfl; rfl; rfl; rfl))
             | (((with_reducible apply go_len); rfl; rfl)))
           | ((with_reducible (show evOps _ _ _ _ _ _)); first
             | (with_reducible apply go_nil))
           | ((with_reducible (show evG _ _ _ _ _)); first
             | (with_reducible apply go_seq)
             | (with_reducible apply go_region)
             | (((with_reducible apply go_cond); rfl) <;> (intro h; simp only [h]; try simp only [decide_eq_true_eq, decide_eq_false_iff_not, Bool.not_eq_true', Bool.not_eq_false', Bool.not_true, Bool.not_false] at h; try exact absurd trivial h))
             | (with_reducible apply go_skipc)
             | (with_reducible apply go_block)
             | (with_reducible apply go_exit))
           | (with_reducible apply go_kseq)
           | (with_reducible apply go_kblock_exit)
           | (with_reducible apply go_kseq_exit)
  all_goals try (exfalso; omega)
  refine go_count (l.length) (fun i => ⟨[(5, .int .i64 i), (4, .int .i64 l.length), (0, .sl (l.map encPt))], [], 0, 102⟩) (fun i => ∀ j (hj : j < i) (hj' : j < l.length), ∀ k (hk : k < j), l[j] ≠ l[k]) (entails_eq (k := 0) (ns := []) (ks := [5, 4, 0]) [] rfl (by simp) rfl) (by omega) ?_
  intro i hi hC
  by_cases h2 : i < l.length
  · repeat' first
           | (with_reducible apply go_op)
           | (with_reducible apply go_next)
           | ((with_reducible (show evOp _ _ _ _ _ _)); first
             | (((with_reducible apply go_mv_int); rfl; rfl))
             | ((with_reducible apply go_as))
             | (((with_reducible apply go_cmp); rfl; rfl; rfl; rfl)))
           | ((with_reducible (show evOps _ _ _ _ _ _)); first
             | (with_reducible apply go_nil))
           | ((with_reducible (show evG _ _ _ _ _)); first
             | (with_reducible apply go_seq)
             | (with_reducible apply go_region)
             | (((with_reducible apply go_cond); rfl) <;> (intro h; simp only [h]; try simp only [decide_eq_true_eq, decide_eq_false_iff_not, Bool.not_eq_true', Bool.not_eq_false', Bool.not_true, Bool.not_false] at h; try exact absurd trivial h))
             | (with_reducible apply go_skipc)
             | (with_reducible apply go_block)
             | (with_reducible apply go_exit))
           | (with_reducible apply go_kseq)
           | (with_reducible apply go_kblock_exit)
           | (with_reducible apply go_kseq_exit)
    all_goals try (exfalso; omega)
    refine go_count i (fun k => ⟨[(6, .int .i64 k), (5, .int .i64 i), (4, .int .i64 l.length), (0, .sl (l.map encPt))], [], 0, 102⟩) (fun k => ∀ j (hj : j < k) (hj' : j < i), l[i] ≠ l[j])
      (entails_eq (nx := 0) (k := 0) (ns := []) (ks := [6, 5, 4, 0]) [] rfl (by simp) (by kernel_rfl)) (by omega) ?_
    intro k hk hC2
    by_cases h3 : k < i
    · repeat' first
           | (with_reducible apply go_op)
           | (with_reducible apply go_next)
           | ((with_reducible (show evOp _ _ _ _ _ _)); first
             | ((with_reducible (show evOp _ (.move _) _ _ _ _)) ; first | ((with_reducible apply go_mv_int); rfl; rfl) | ((with_reducible apply go_mv_sl); rfl; rfl))
             | ((with_reducible apply go_as))
             | (((with_reducible apply go_ld_ptr); rfl; rfl; rfl))
             | (((with_reducible apply go_index_nat); rfl; rfl; (with_reducible rfl); (intro; rfl); rfl; omega; (intro hlt)))
             | ((with_reducible (show evOp _ (.binOp _ _ _ _ _) _ _ _ _)) ; first | ((with_reducible apply go_cmp); rfl; rfl; rfl; rfl) | ((with_reducible apply go_add); rfl; rfl; rfl; omega) | ((with_reducible apply go_eql_agg); rfl; rfl; rfl; rfl)))
           | ((with_reducible (show evOps _ _ _ _ _ _)); first
             | (with_reducible apply go_nil)
             | ((with_reducible apply go_pre); rfl)
             | (with_reducible apply go_pre_nil)
             | ((with_reducible apply go_suf); rfl)
             | (with_reducible apply go_suf_nil))
           | ((with_reducible (show evG _ _ _ _ _)); first
             | (with_reducible apply go_seq)
             | (with_reducible apply go_region)
             | (((with_reducible apply go_cond); rfl) <;> (intro h; simp only [h]; try simp only [decide_eq_true_eq, decide_eq_false_iff_not, Bool.not_eq_true', Bool.not_eq_false', Bool.not_true, Bool.not_false] at h; try exact absurd trivial h))
             | ((with_reducible apply go_order); kernel_rfl; rfl)
             | (with_reducible apply go_ret)
             | (with_reducible apply go_skipc)
             | (with_reducible apply go_block)
             | (with_reducible apply go_exit))
           | (with_reducible apply go_kseq)
           | (with_reducible apply go_ksuf)
           | (with_reducible apply go_kseq_ret)
           | (with_reducible apply go_kblock)
           | (with_reducible apply go_kblock_ret)
           | (with_reducible apply go_kblock_exit)
           | (with_reducible apply go_kseq_exit)
           | ((with_reducible apply end_int); rfl)
      all_goals first
        | (exfalso; omega)
        | (have e1 : ptEq l[i] l[k] = true := by assumption
           rw [hpe, simple_dup h3 h2 (ptEq_iff.1 e1)]; rfl)
        | (have e1 : ptEq l[i] l[k] = false := by assumption
           refine ⟨h3, fun j hj hj' => ?_, entails_eq (nx := 0) (k := 0) (ns := []) (ks := [6, 5, 4, 0]) [] rfl (by simp) (by kernel_rfl)⟩
           rcases Nat.lt_succ_iff_lt_or_eq.1 hj with h' | rfl
           · exact hC2 j h' hj'
           · intro he; rw [ptEq_iff.2 he] at e1; cases e1)
        | trace_state
    · repeat' first
           | (with_reducible apply go_op)
           | (with_reducible apply go_next)
           | ((with_reducible (show evOp _ _ _ _ _ _)); first
             | ((with_reducible (show evOp _ (.move _) _ _ _ _)) ; first | ((with_reducible apply go_mv_int); rfl; rfl) | ((with_reducible apply go_mv_sl); rfl; rfl))
             | ((with_reducible apply go_as))
             | (((with_reducible apply go_ld_ptr); rfl; rfl; rfl))
             | (((with_reducible apply go_index_nat); rfl; rfl; (with_reducible rfl); (intro; rfl); rfl; omega; (intro hlt)))
             | ((with_reducible (show evOp _ (.binOp _ _ _ _ _) _ _ _ _)) ; first | ((with_reducible apply go_cmp); rfl; rfl; rfl; rfl) | ((with_reducible apply go_add); rfl; rfl; rfl; omega) | ((with_reducible apply go_eql_agg); rfl; rfl; rfl; rfl)))
           | ((with_reducible (show evOps _ _ _ _ _ _)); first
             | (with_reducible apply go_nil)
             | ((with_reducible apply go_pre); rfl)
             | (with_reducible apply go_pre_nil)
             | ((with_reducible apply go_suf); rfl)
             | (with_reducible apply go_suf_nil))
           | ((with_reducible (show evG _ _ _ _ _)); first
             | (with_reducible apply go_seq)
             | (with_reducible apply go_region)
             | (((with_reducible apply go_cond); rfl) <;> (intro h; simp only [h]; try simp only [decide_eq_true_eq, decide_eq_false_iff_not, Bool.not_eq_true', Bool.not_eq_false', Bool.not_true, Bool.not_false] at h; try exact absurd trivial h))
             | ((with_reducible apply go_order); kernel_rfl; rfl)
             | (with_reducible apply go_ret)
             | (with_reducible apply go_skipc)
             | (with_reducible apply go_block)
             | (with_reducible apply go_exit))
           | (with_reducible apply go_kseq)
           | (with_reducible apply go_ksuf)
           | (with_reducible apply go_kseq_ret)
           | (with_reducible apply go_kblock)
           | (with_reducible apply go_kblock_ret)
           | (with_reducible apply go_kblock_exit)
           | (with_reducible apply go_kseq_exit)
           | ((with_reducible apply end_int); rfl)
      all_goals first
        | (exfalso; omega)
        | (refine ⟨h2, fun j hj hj' => ?_, entails_eq (k := 0) (ns := []) (ks := [5, 4, 0]) [] rfl (by simp) rfl⟩
           rcases Nat.lt_succ_iff_lt_or_eq.1 hj with h' | rfl
           · exact hC j h' hj'
           · exact fun k' hk' => hC2 k' (by omega) hk')
        | trace_state
  have hd : ∀ i (hi : i < l.length), ∀ k (hk : k < i), l[i] ≠ l[k] := fun i' hi' => hC i' (by omega) hi'
  repeat' first
           | (with_reducible apply go_op)
           | (with_reducible apply go_next)
           | ((with_reducible (show evOp _ _ _ _ _ _)); first
             | (((with_reducible apply go_mv_int); rfl; rfl))
             | ((with_reducible apply go_as))
             | (((with_reducible apply go_cmp); rfl; rfl; rfl; rfl)))
           | ((with_reducible (show evOps _ _ _ _ _ _)); first
             | (with_reducible apply go_nil))
           | ((with_reducible (show evG _ _ _ _ _)); first
             | (with_reducible apply go_seq)
             | (with_reducible apply go_region)
             | (((with_reducible apply go_cond); rfl) <;> (intro h; simp only [h]; try simp only [decide_eq_true_eq, decide_eq_false_iff_not, Bool.not_eq_true', Bool.not_eq_false', Bool.not_true, Bool.not_false] at h; try exact absurd trivial h))
             | (with_reducible apply go_skipc)
             | (with_reducible apply go_block)
             | (with_reducible apply go_exit))
           | (with_reducible apply go_kseq)
           | (with_reducible apply go_kblock_exit)
           | (with_reducible apply go_kseq_exit)
  all_goals try (exfalso; omega)
  refine go_count (l.length) (fun i => ⟨[(7, .int .i64 i), (4, .int .i64 l.length), (0, .sl (l.map encPt))], [], 0, 102⟩) (fun i => ∀ j, j < i → rturn l j = false ∧ ∀ k, k < l.length → j + 2 ≤ k → pairBad l j k = false) (entails_eq (k := 0) (ns := []) (ks := [7, 4, 0]) [] rfl (by simp) rfl) (by omega) ?_
  intro i hi hC
  by_cases h2 : i < l.length
  rotate_left
  · repeat' first
           | (with_reducible apply go_op)
           | (with_reducible apply go_next)
           | ((with_reducible (show evOp _ _ _ _ _ _)); first
             | ((with_reducible (show evOp _ (.move _) _ _ _ _)) ; first | ((with_reducible apply go_mv_int); rfl; rfl) | ((with_reducible apply go_mv_sl); rfl; rfl))
             | ((with_reducible apply go_as))
             | (((with_reducible apply go_cmp); rfl; rfl; rfl; rfl)))
           | ((with_reducible (show evOps _ _ _ _ _ _)); first
             | (with_reducible apply go_nil))
           | ((with_reducible (show evG _ _ _ _ _)); first
             | (with_reducible apply go_seq)
             | (with_reducible apply go_region)
             | (((with_reducible apply go_cond); rfl) <;> (intro h; simp only [h]; try simp only [decide_eq_true_eq, decide_eq_false_iff_not, Bool.not_eq_true', Bool.not_eq_false', Bool.not_true, Bool.not_false] at h; try exact absurd trivial h))
             | (with_reducible apply go_ret)
             | (with_reducible apply go_skipc)
             | (with_reducible apply go_block)
             | (with_reducible apply go_exit))
           | (with_reducible apply go_kseq)
           | (with_reducible apply go_kblock_exit)
           | (with_reducible apply go_kseq_exit)
           | ((with_reducible apply end_int); rfl)
    all_goals first
      | (exfalso; omega)
      | (rw [hpe, simple_yes (fun j hj => turn_ok hb.1 hj hd (hC j (by omega)).1) fun j hj k hk hjk => (hC j (by omega)).2 k hk hjk]; rfl)
      | trace_state
  have o0 := hok _ (cornerP_mem h0 i)
  have o1 := hok _ (cornerP_mem h0 (i + 1))
  have o2 := hok _ (cornerP_mem h0 (i + 2))
  have k0 := c_rcorner l h0 (by omega) i
  have k1 : Contract Try.prog 90 [.sl (l.map encPt), .int .i64 ((i : Int) + 1)] (.ret (.agg (encPt (cornerP l (i + 1))))) := c_rcorner l h0 (by omega) (i + 1)
  have k2 : Contract Try.prog 90 [.sl (l.map encPt), .int .i64 ((i : Int) + 2)] (.ret (.agg (encPt (cornerP l (i + 2))))) := c_rcorner l h0 (by omega) (i + 2)
  have n1 := c_rbetween (cornerP l i) (cornerP l (i + 1)) (cornerP l (i + 2)) o0 o1 o2
  have n2 := c_rbetween (cornerP l (i + 1)) (cornerP l (i + 2)) (cornerP l i) o1 o2 o0
  have hst := fun h => simple_turn (l := l) h2 (rturn_bad h)
  have hbad : rturn l i = (onE (cornerP l i) (cornerP l (i + 1)) (cornerP l (i + 2)) || onE (cornerP l (i + 1)) (cornerP l (i + 2)) (cornerP l i)) := rfl
  rw [hbad] at hst
  generalize ha : cornerP l i = a at *
  generalize hb' : cornerP l (i + 1) = b at *
  generalize hc : cornerP l (i + 2) = c at *
  have hCi : ∀ j, j < i → rturn l j = false ∧ ∀ k, k < l.length → j + 2 ≤ k → pairBad l j k = false := hC
  repeat' first
           | (with_reducible apply go_op)
           | (with_reducible apply go_next)
           | ((with_reducible (show evOp _ _ _ _ _ _)); first
             | ((with_reducible (show evOp _ (.move _) _ _ _ _)) ; first | ((with_reducible apply go_mv_int); rfl; rfl) | ((with_reducible apply go_mv_bool); rfl; rfl) | ((with_reducible apply go_mv_sl); rfl; rfl))
             | ((with_reducible apply go_as))
             | (((with_reducible apply go_ld_agg); rfl; rfl; rfl; rfl))
             | ((with_reducible (show evOp _ (.binOp _ _ _ _ _) _ _ _ _)) ; first | ((with_reducible apply go_cmp); rfl; rfl; rfl; rfl) | ((with_reducible apply go_add); rfl; rfl; rfl; omega))
             | ((with_reducible (show evOp _ (.call _) _ _ _ _)) ; first | ((with_reducible apply go_fn_plain); rfl; (exact k0); rfl; (exact Nat.le_of_ble_eq_true rfl); rfl) | ((with_reducible apply go_fn_plain); rfl; (exact k1); rfl; (exact Nat.le_of_ble_eq_true rfl); rfl) | ((with_reducible apply go_fn_plain); rfl; (exact k2); rfl; (exact Nat.le_of_ble_eq_true rfl); rfl) | ((with_reducible apply go_fn_bool); rfl; (exact n1); rfl) | ((with_reducible apply go_fn_bool); rfl; (exact n2); rfl))
             | (((with_reducible apply go_st_agg); rfl; rfl; rfl; rfl; rfl; rfl; rfl))
             | (((with_reducible apply go_pick); rfl; rfl; rfl))
             | (((with_reducible apply go_alloc); rfl; rfl; rfl)))
           | ((with_reducible (show evOps _ _ _ _ _ _)); first
             | (with_reducible apply go_nil)
             | ((with_reducible apply go_run); rfl; rfl)
             | ((with_reducible apply go_pass); rfl; rfl; rfl)
             | (((with_reducible apply go_guard); rfl) <;> (intro h; simp only [h, Bool.not_true, Bool.not_false]; (try with_reducible (refine ⟨rfl, ?_⟩)); try simp only [decide_eq_true_eq, decide_eq_false_iff_not, Bool.not_eq_true', Bool.not_eq_false', Bool.not_true, Bool.not_false] at h; try exact absurd trivial h)))
           | ((with_reducible (show evG _ _ _ _ _)); first
             | (with_reducible apply go_seq)
             | (with_reducible apply go_region)
             | ((with_reducible apply go_cond_t); rfl; rfl)
             | (((with_reducible apply go_cond); rfl) <;> (intro h; simp only [h]; try simp only [decide_eq_true_eq, decide_eq_false_iff_not, Bool.not_eq_true', Bool.not_eq_false', Bool.not_true, Bool.not_false] at h; try exact absurd trivial h))
             | (with_reducible apply go_ret)
             | (with_reducible apply go_skipc)
             | (with_reducible apply go_block)
             | (with_reducible apply go_exit))
           | (with_reducible apply go_kseq)
           | (with_reducible apply go_kseq_ret)
           | (with_reducible apply go_kblock_ret)
           | (with_reducible apply go_kblock_exit)
           | (with_reducible apply go_kseq_exit)
           | ((with_reducible apply end_int); rfl)
  all_goals try (exfalso; omega)
  · rw [hpe, hst (by simp [*])]; rfl
  · have hb0 : rturn l i = false := by rw [hbad]; simp [*]
    refine go_count l.length (fun j => ⟨[(11, .int .i64 ((i + 2 + j : Nat) : Int)), (7, .int .i64 i), (4, .int .i64 l.length), (8, .op 0 0 0), (9, .op 1 0 0), (0, .sl (l.map encPt))], [(0, ⟨2, true, [encPt a]⟩), (1, ⟨2, true, [encPt b]⟩)], 32, 102⟩) (fun j => ∀ k, k < l.length → i + 2 ≤ k → k < i + 2 + j → pairBad l i k = false)
      (entails_eq (nx := 32) (k := 0) (ns := []) (ks := [11, 7, 4, 8, 9, 0]) [(448, 0), (480, 1)] rfl (by simp) (by kernel_rfl)) (by omega) ?_
    intro j hj hC2
    by_cases h5 : i + 2 + j < l.length
    · have q0 := hok _ (cornerP_mem h0 (i + 2 + j))
      have q1 := hok _ (cornerP_mem h0 (i + 2 + j + 1))
      have k3 := c_rcorner l h0 (by omega) (i + 2 + j)
      have k4 : Contract Try.prog 90 [.sl (l.map encPt), .int .i64 (((i + 2 + j : Nat) : Int) + 1)] (.ret (.agg (encPt (cornerP l (i + 2 + j + 1))))) := c_rcorner l h0 (by omega) (i + 2 + j + 1)
      have mt := c_rmeet a b (cornerP l (i + 2 + j)) (cornerP l (i + 2 + j + 1)) o0 o1 q0 q1
      have hpb : pairBad l i (i + 2 + j) = (decide ((i + 2 + j + 1) % l.length ≠ i) && meetE a b (cornerP l (i + 2 + j)) (cornerP l (i + 2 + j + 1))) := by rw [pairBad, ha, hb']
      have hsp := fun h => simple_pair (l := l) h2 h5 (by omega) h
      rw [hpb] at hsp
      have hmod : (((i + 2 + j : Nat) : Int) + 1) % (l.length : Int) = (((i + 2 + j + 1) % l.length : Nat) : Int) := by
        rw [Int.natCast_emod]; rfl
      generalize cornerP l (i + 2 + j + 1) = d at *
      generalize cornerP l (i + 2 + j) = e at *
      generalize hk : i + 2 + j = k at *
      repeat' first
           | (with_reducible apply go_op)
           | (with_reducible apply go_next)
           | ((with_reducible (show evOp _ _ _ _ _ _)); first
             | ((with_reducible (show evOp _ (.move _) _ _ _ _)) ; first | ((with_reducible apply go_mv_int); rfl; rfl) | ((with_reducible apply go_mv_bool); rfl; rfl) | ((with_reducible apply go_mv_sl); rfl; rfl))
             | ((with_reducible apply go_as))
             | (((with_reducible apply go_ld_agg); rfl; rfl; rfl; rfl))
             | ((with_reducible (show evOp _ (.binOp _ _ _ _ _) _ _ _ _)) ; first | ((with_reducible apply go_cmp); rfl; rfl; rfl; rfl) | ((with_reducible apply go_add); rfl; rfl; rfl; omega) | ((with_reducible apply go_rem_pos); rfl; rfl; rfl; omega))
             | ((with_reducible (show evOp _ (.call _) _ _ _ _)) ; first | ((with_reducible apply go_fn_plain); rfl; (exact k3); rfl; (exact Nat.le_of_ble_eq_true rfl); rfl) | ((with_reducible apply go_fn_plain); rfl; (exact k4); rfl; (exact Nat.le_of_ble_eq_true rfl); rfl) | ((with_reducible apply go_fn_bool); rfl; (exact mt); rfl))
             | (((with_reducible apply go_pick); rfl; rfl; rfl)))
           | ((with_reducible (show evOps _ _ _ _ _ _)); first
             | (with_reducible apply go_nil)
             | ((with_reducible apply go_run); rfl; rfl)
             | ((with_reducible apply go_pass); rfl; rfl; rfl)
             | (((with_reducible apply go_guard); rfl) <;> (intro h; simp only [h, Bool.not_true, Bool.not_false]; (try with_reducible (refine ⟨rfl, ?_⟩)); try simp only [decide_eq_true_eq, decide_eq_false_iff_not, Bool.not_eq_true', Bool.not_eq_false', Bool.not_true, Bool.not_false] at h; try exact absurd trivial h))
             | ((with_reducible apply go_pre); rfl)
             | (with_reducible apply go_pre_nil)
             | ((with_reducible apply go_suf); rfl)
             | (with_reducible apply go_suf_nil))
           | ((with_reducible (show evG _ _ _ _ _)); first
             | (with_reducible apply go_seq)
             | (with_reducible apply go_region)
             | ((with_reducible apply go_cond_f); rfl; rfl)
             | (((with_reducible apply go_cond); rfl) <;> (intro h; simp only [h]; try simp only [decide_eq_true_eq, decide_eq_false_iff_not, Bool.not_eq_true', Bool.not_eq_false', Bool.not_true, Bool.not_false] at h; try exact absurd trivial h))
             | ((with_reducible apply go_order); kernel_rfl; rfl)
             | (with_reducible apply go_ret)
             | (with_reducible apply go_skipc)
             | (with_reducible apply go_block)
             | (with_reducible apply go_exit))
           | (with_reducible apply go_kseq)
           | (with_reducible apply go_ksuf)
           | (with_reducible apply go_kseq_ret)
           | (with_reducible apply go_kblock)
           | (with_reducible apply go_kblock_ret)
           | (with_reducible apply go_kblock_exit)
           | (with_reducible apply go_kseq_exit)
           | ((with_reducible apply end_int); rfl)
      all_goals first
        | (exfalso; omega)
        | (rw [hpe, hsp ?_]; rfl
           simp only [Bool.and_eq_true, decide_eq_true_eq]
           exact ⟨by omega, by assumption⟩)
        | (refine ⟨by omega, fun k' hk' hk2 hk3 => ?_, ?_⟩
           · by_cases hlast : k' < k
             · exact hC2 k' hk' hk2 (by omega)
             · have : k' = k := by omega
               subst this
               rw [hpb]
               by_cases hm2 : (k' + 1) % l.length = i
               · simp only [hm2, ne_eq, not_true_eq_false, decide_false, Bool.false_and]
               · have : meetE a b e d = false := by first | assumption | (exfalso; omega)
                 rw [this, Bool.and_false]
           · rw [show i + 2 + (j + 1) = k + 1 by omega]
             exact entails_eq (nx := 32) (k := 0) (ns := []) (ks := [11, 7, 4, 8, 9, 0]) [(0, 0), (1, 1)] rfl (by simp) (by kernel_rfl))
        | trace_state
    · repeat' first
           | (with_reducible apply go_op)
           | (with_reducible apply go_next)
           | ((with_reducible (show evOp _ _ _ _ _ _)); first
             | ((with_reducible (show evOp _ (.move _) _ _ _ _)) ; first | ((with_reducible apply go_mv_int); rfl; rfl) | ((with_reducible apply go_mv_bool); rfl; rfl) | ((with_reducible apply go_mv_sl); rfl; rfl))
             | ((with_reducible apply go_as))
             | (((with_reducible apply go_ld_agg); rfl; rfl; rfl; rfl))
             | ((with_reducible (show evOp _ (.binOp _ _ _ _ _) _ _ _ _)) ; first | ((with_reducible apply go_cmp); rfl; rfl; rfl; rfl) | ((with_reducible apply go_add); rfl; rfl; rfl; omega) | ((with_reducible apply go_rem_pos); rfl; rfl; rfl; omega))
             | (((with_reducible apply go_pick); rfl; rfl; rfl)))
           | ((with_reducible (show evOps _ _ _ _ _ _)); first
             | (with_reducible apply go_nil)
             | ((with_reducible apply go_run); rfl; rfl)
             | ((with_reducible apply go_pass); rfl; rfl; rfl)
             | (((with_reducible apply go_guard); rfl) <;> (intro h; simp only [h, Bool.not_true, Bool.not_false]; (try with_reducible (refine ⟨rfl, ?_⟩)); try simp only [decide_eq_true_eq, decide_eq_false_iff_not, Bool.not_eq_true', Bool.not_eq_false', Bool.not_true, Bool.not_false] at h; try exact absurd trivial h))
             | ((with_reducible apply go_pre); rfl)
             | (with_reducible apply go_pre_nil)
             | ((with_reducible apply go_suf); rfl)
             | (with_reducible apply go_suf_nil))
           | ((with_reducible (show evG _ _ _ _ _)); first
             | (with_reducible apply go_seq)
             | (with_reducible apply go_region)
             | ((with_reducible apply go_cond_f); rfl; rfl)
             | (((with_reducible apply go_cond); rfl) <;> (intro h; simp only [h]; try simp only [decide_eq_true_eq, decide_eq_false_iff_not, Bool.not_eq_true', Bool.not_eq_false', Bool.not_true, Bool.not_false] at h; try exact absurd trivial h))
             | ((with_reducible apply go_order); kernel_rfl; rfl)
             | (with_reducible apply go_skipc)
             | (with_reducible apply go_block)
             | (with_reducible apply go_exit))
           | (with_reducible apply go_kseq)
           | (with_reducible apply go_ksuf)
           | (with_reducible apply go_kblock)
           | (with_reducible apply go_kblock_exit)
           | (with_reducible apply go_kseq_exit)
      all_goals first
        | (exfalso; omega)
        | (refine ⟨h2, fun j' hj' => ?_, entails_eq (k := 0) (ns := []) (ks := [7, 4, 0]) [] rfl (by simp) rfl⟩
           rcases Nat.lt_succ_iff_lt_or_eq.1 hj' with h' | rfl
           · exact hCi j' h'
           · exact ⟨hb0, fun k hk hik => hC2 k hk hik (by omega)⟩)
        | trace_state
  · rw [hpe, hst (by simp [*])]; rfl
end Go.Pv.Geo

open Go Go.Proofs Go.Pv
set_option maxHeartbeats 4000000
set_option maxRecDepth 100000
set_option linter.unusedSimpArgs false
set_option linter.unusedVariables false
namespace Go.Pv.Geo
def sumTo (f : Nat → Int) : Nat → Int
  | 0 => 0
  | i + 1 => sumTo f i + f i
theorem sumTo_bd {f : Nat → Int} {B : Int} (h : ∀ i, -B ≤ f i ∧ f i ≤ B) : ∀ n : Nat, -(B * n) ≤ sumTo f n ∧ sumTo f n ≤ B * n
  | 0 => by simp [sumTo]
  | n + 1 => by
    have ih := sumTo_bd h n
    have := h n
    have e : B * ((n + 1 : Nat) : Int) = B * n + B := by rw [show ((n + 1 : Nat) : Int) = (n : Int) + 1 by rfl, Int.mul_add, Int.mul_one]
    simp only [sumTo]
    omega
def areaT (l : List Pt) (i : Nat) : Int := crossE (cornerP l 0) (cornerP l i) (cornerP l (i + 1))
def areaS (l : List Pt) : Int := sumTo (areaT l) l.length
def areaE (l : List Pt) : Int := absE (areaS l)
theorem areaT_bd {l : List Pt} (h0 : 0 < l.length) (hok : ∀ p ∈ l, ptOK p = true) (i : Nat) : -8000000000000 ≤ areaT l i ∧ areaT l i ≤ 8000000000000 :=
  crossE_bd (hok _ (cornerP_mem h0 _)) (hok _ (cornerP_mem h0 _)) (hok _ (cornerP_mem h0 _))
theorem areaS_bd {l : List Pt} (h0 : 0 < l.length) (h40 : l.length ≤ 40) (hok : ∀ p ∈ l, ptOK p = true) {i : Nat} (hi : i ≤ 40) : -320000000000000 ≤ sumTo (areaT l) i ∧ sumTo (areaT l) i ≤ 320000000000000 := by
  have := sumTo_bd (areaT_bd h0 hok) i
  omega
theorem max_abs (n : Int) : max n (0 - n) = absE n := by unfold absE; split <;> omega
theorem c_Area (l : List Pt) : Contract Try.prog 44 [.sl (l.map encPt)] (.ret (.tup [.int .i64 (if polyE l = 0 then areaE l else 0), .int .i64 (polyE l)])) := by
  have hC := c_CheckPolygon l
  by_cases hz : polyE l = 0
  rotate_left
  · rw [if_neg hz]
    refine contract_of mix Try.func44 rfl rfl (by rw [Try.ntmps44]; exact Nat.le_of_ble_eq_true rfl) ?_; rw [Try.results44, Try.ntmps44]; simp only [argsE, Nat.reduceAdd]
    repeat' first
           | (with_reducible apply go_op)
           | (with_reducible apply go_next)
           | ((with_reducible (show evOp _ _ _ _ _ _)); first
             | ((with_reducible (show evOp _ (.move _) _ _ _ _)) ; first | ((with_reducible apply go_mv_int); rfl; rfl) | ((with_reducible apply go_mv_sl); rfl; rfl))
             | ((with_reducible apply go_as))
             | (((with_reducible apply go_cmp); rfl; rfl; rfl; rfl))
             | ((with_reducible (show evOp _ (.call _) _ _ _ _)) ; first | ((with_reducible apply go_len); rfl; rfl) | ((with_reducible apply go_fn_int); rfl; (exact hC); rfl)))
           | ((with_reducible (show evOps _ _ _ _ _ _)); first
             | (with_reducible apply go_nil))
           | ((with_reducible (show evG _ _ _ _ _)); first
             | (with_reducible apply go_seq)
             | (with_reducible apply go_region)
             | (((with_reducible apply go_cond); rfl) <;> (intro h; simp only [h]; try simp only [decide_eq_true_eq, decide_eq_false_iff_not, Bool.not_eq_true', Bool.not_eq_false', Bool.not_true, Bool.not_false] at h; try exact absurd trivial h))
             | (with_reducible apply go_ret)
             | (with_reducible apply go_skipc)
             | (with_reducible apply go_block))
           | (with_reducible apply go_kseq)
           | (with_reducible apply go_kseq_ret)
           | ((with_reducible apply end_t2); rfl; rfl; rfl; rfl)
    all_goals first | rfl | (exfalso; omega)
  obtain ⟨⟨h3, h40⟩, hok, -⟩ := poly_ok hz
  have h0 : 0 < l.length := by omega
  rw [hz] at hC ⊢
  rw [if_pos rfl]
  refine contract_of mix Try.func44 rfl rfl (by rw [Try.ntmps44]; exact Nat.le_of_ble_eq_true rfl) ?_; rw [Try.results44, Try.ntmps44]; simp only [argsE, Nat.reduceAdd]
  repeat' first
           | (with_reducible apply go_op)
           | (with_reducible apply go_next)
           | ((with_reducible (show evOp _ _ _ _ _ _)); first
             | ((with_reducible (show evOp _ (.move _) _ _ _ _)) ; first | ((with_reducible apply go_mv_int); rfl; rfl) | ((with_reducible apply go_mv_sl); rfl; rfl))
             | ((with_reducible apply go_as))
             | (((with_reducible apply go_cmp); rfl; rfl; rfl; rfl))
             | ((with_reducible (show evOp _ (.call _) _ _ _ _)) ; first | ((with_reducible apply go_len); rfl; rfl) | ((with_reducible apply go_fn_int); rfl; (exact hC); rfl)))
           | ((with_reducible (show evOps _ _ _ _ _ _)); first
             | (with_reducible apply go_nil))
           | ((with_reducible (show evG _ _ _ _ _)); first
             | (with_reducible apply go_seq)
             | (with_reducible apply go_region)
             | ((with_reducible apply go_cond_f); rfl; rfl)
             | (with_reducible apply go_skipc)
             | (with_reducible apply go_block))
           | (with_reducible apply go_kseq)
  all_goals try (exfalso; omega)
  refine go_count l.length (fun i => ⟨[(14, .int .i64 i), (13, .int .i64 l.length), (5, .int .i64 (sumTo (areaT l) i)), (0, .sl (l.map encPt))], [], 0, 36⟩) (fun i => True)
    (entails_eq (nx := 0) (k := 0) (ns := []) (ks := [14, 13, 5, 0]) [] rfl (by simp) (by kernel_rfl)) trivial ?_
  intro i hi hC
  have hs := areaS_bd h0 h40 hok (i := i) (by omega)
  have ht := areaT_bd h0 hok i
  by_cases h2 : i < l.length
  · have e0 : cornerP l 0 = l[0] := cornerP_lt h0
    have ei := cornerP_lt h2
    have k1 : Contract Try.prog 89 [.sl (l.map encPt), .int .i64 ((i : Int) + 1)] (.ret (.agg (encPt (cornerP l (i + 1))))) := c_corner l h0 (by omega) (i + 1)
    have x1 := c_cross l[0] l[i] (cornerP l (i + 1)) (hok _ (List.getElem_mem _)) (hok _ (List.getElem_mem _)) (hok _ (cornerP_mem h0 _))
    have et : areaT l i = crossE l[0] l[i] (cornerP l (i + 1)) := by rw [areaT, e0, ei]
    have en : sumTo (areaT l) (i + 1) = sumTo (areaT l) i + crossE l[0] l[i] (cornerP l (i + 1)) := by rw [← et]; rfl
    rw [et] at ht
    rw [en]
    generalize cornerP l (i + 1) = b at *
    repeat' first
           | (with_reducible apply go_op)
           | (with_reducible apply go_next)
           | ((with_reducible (show evOp _ _ _ _ _ _)); first
             | ((with_reducible (show evOp _ (.move _) _ _ _ _)) ; first | ((with_reducible apply go_mv_int); rfl; rfl) | ((with_reducible apply go_mv_sl); rfl; rfl))
             | ((with_reducible apply go_as))
             | (((with_reducible apply go_ld_ptr); rfl; rfl; rfl))
             | ((with_reducible (show evOp _ (.indexAddr _ _ _) _ _ _ _)) ; first | ((with_reducible apply go_index_nat); rfl; rfl; (with_reducible rfl); (intro; rfl); rfl; omega; (intro hlt)) | ((with_reducible apply go_index); rfl; rfl; (intro; rfl); rfl; omega; intro hlt))
             | ((with_reducible (show evOp _ (.binOp _ _ _ _ _) _ _ _ _)) ; first | ((with_reducible apply go_cmp); rfl; rfl; rfl; rfl) | ((with_reducible apply go_add); rfl; rfl; rfl; omega))
             | ((with_reducible (show evOp _ (.call _) _ _ _ _)) ; first | ((with_reducible apply go_max); rfl; rfl; rfl) | ((with_reducible apply go_fn_plain); rfl; (exact k1); rfl; (exact Nat.le_of_ble_eq_true rfl); rfl) | ((with_reducible apply go_fn_int); rfl; (exact x1); rfl))
             | (((with_reducible apply go_neg); rfl; rfl; omega)))
           | ((with_reducible (show evOps _ _ _ _ _ _)); first
             | (with_reducible apply go_nil)
             | (with_reducible apply go_take)
             | (with_reducible apply go_take0)
             | (with_reducible apply go_drop)
             | (with_reducible apply go_drop0))
           | ((with_reducible (show evG _ _ _ _ _)); first
             | (with_reducible apply go_seq)
             | (with_reducible apply go_region)
             | (((with_reducible apply go_cond); rfl) <;> (intro h; simp only [h]; try simp only [decide_eq_true_eq, decide_eq_false_iff_not, Bool.not_eq_true', Bool.not_eq_false', Bool.not_true, Bool.not_false] at h; try exact absurd trivial h))
             | ((with_reducible apply (go_drawM 14)); decide +kernel; rfl)
             | (with_reducible apply go_ret)
             | (with_reducible apply go_skipc)
             | (with_reducible apply go_block)
             | (with_reducible apply go_exit))
           | (with_reducible apply go_kseq)
           | (with_reducible apply go_kblock)
           | (with_reducible apply go_kblock_exit)
           | (with_reducible apply go_kdrop)
           | (with_reducible apply go_kseq_exit)
           | ((with_reducible apply end_t2); rfl; rfl; rfl; rfl)
    all_goals first
      | (exfalso; omega)
      | exact ⟨h2, trivial, entails_eq (nx := 0) (k := 0) (ns := []) (ks := [14, 13, 5, 0]) [] rfl (by simp) (by kernel_rfl)⟩
      | trace_state
  · have en : i = l.length := by omega
    subst en
    repeat' first
           | (with_reducible apply go_op)
           | (with_reducible apply go_next)
           | ((with_reducible (show evOp _ _ _ _ _ _)); first
             | ((with_reducible (show evOp _ (.move _) _ _ _ _)) ; first | ((with_reducible apply go_mv_int); rfl; rfl) | ((with_reducible apply go_mv_sl); rfl; rfl))
             | ((with_reducible apply go_as))
             | (((with_reducible apply go_ld_ptr); rfl; rfl; rfl))
             | ((with_reducible (show evOp _ (.indexAddr _ _ _) _ _ _ _)) ; first | ((with_reducible apply go_index_nat); rfl; rfl; (with_reducible rfl); (intro; rfl); rfl; omega; (intro hlt)) | ((with_reducible apply go_index); rfl; rfl; (intro; rfl); rfl; omega; intro hlt))
             | ((with_reducible (show evOp _ (.binOp _ _ _ _ _) _ _ _ _)) ; first | ((with_reducible apply go_cmp); rfl; rfl; rfl; rfl) | ((with_reducible apply go_add); rfl; rfl; rfl; omega))
             | (((with_reducible apply go_max); rfl; rfl; rfl))
             | (((with_reducible apply go_neg); rfl; rfl; omega)))
           | ((with_reducible (show evOps _ _ _ _ _ _)); first
             | (with_reducible apply go_nil)
             | (with_reducible apply go_take))
           | ((with_reducible (show evG _ _ _ _ _)); first
             | (with_reducible apply go_seq)
             | (with_reducible apply go_region)
             | (((with_reducible apply go_cond); rfl) <;> (intro h; simp only [h]; try simp only [decide_eq_true_eq, decide_eq_false_iff_not, Bool.not_eq_true', Bool.not_eq_false', Bool.not_true, Bool.not_false] at h; try exact absurd trivial h))
             | ((with_reducible apply (go_drawM 14)); decide +kernel; rfl)
             | (with_reducible apply go_ret)
             | (with_reducible apply go_skipc)
             | (with_reducible apply go_block)
             | (with_reducible apply go_exit))
           | (with_reducible apply go_kseq)
           | (with_reducible apply go_kblock_exit)
           | (with_reducible apply go_kseq_exit)
           | ((with_reducible apply end_t2); rfl; rfl; rfl; rfl)
    all_goals first
      | (exfalso; omega)
      | (rw [areaE, areaS, ← max_abs]; rfl)
      | trace_state
theorem c_rArea (l : List Pt) (hz : polyE l = 0) : Contract Try.prog 47 [.sl (l.map encPt)] (.ret (.int .i64 (areaE l))) := by
  obtain ⟨⟨h3, h40⟩, hok, -⟩ := poly_ok hz
  have h0 : 0 < l.length := by omega
  refine contract_of mix Try.func47 rfl rfl (by rw [Try.ntmps47]; exact Nat.le_of_ble_eq_true rfl) ?_; rw [Try.results47, Try.ntmps47]; simp only [argsE, Nat.reduceAdd]
  repeat' first
           | (with_reducible apply go_op)
           | (with_reducible apply go_next)
           | ((with_reducible (show evOp _ _ _ _ _ _)); first
             | (((with_reducible apply go_mv_int); rfl; rfl))
             | ((with_reducible apply go_as)))
           | ((with_reducible (show evOps _ _ _ _ _ _)); first
             | (with_reducible apply go_nil))
           | ((with_reducible (show evG _ _ _ _ _)); first
             | (with_reducible apply go_seq)
             | (with_reducible apply go_region)
             | (with_reducible apply go_block))
           | (with_reducible apply go_kseq)
  refine go_count l.length (fun i => ⟨[(4, .int .i64 i), (3, .int .i64 (sumTo (areaT l) i)), (0, .sl (l.map encPt))], [], 0, 26⟩) (fun i => True)
    (entails_eq (nx := 0) (k := 0) (ns := []) (ks := [4, 3, 0]) [] rfl (by simp) (by kernel_rfl)) trivial ?_
  intro i hi hC
  have hs := areaS_bd h0 h40 hok (i := i) (by omega)
  have ht := areaT_bd h0 hok i
  by_cases h2 : i < l.length
  · have e0 : cornerP l 0 = l[0] := cornerP_lt h0
    have k0 := c_rcorner l h0 (by omega) i
    have k1 : Contract Try.prog 90 [.sl (l.map encPt), .int .i64 ((i : Int) + 1)] (.ret (.agg (encPt (cornerP l (i + 1))))) := c_rcorner l h0 (by omega) (i + 1)
    have x1 := c_rcross l[0] (cornerP l i) (cornerP l (i + 1)) (hok _ (List.getElem_mem _)) (hok _ (cornerP_mem h0 _)) (hok _ (cornerP_mem h0 _))
    have et : areaT l i = crossE l[0] (cornerP l i) (cornerP l (i + 1)) := by rw [areaT, e0]
    have en : sumTo (areaT l) (i + 1) = sumTo (areaT l) i + crossE l[0] (cornerP l i) (cornerP l (i + 1)) := by rw [← et]; rfl
    rw [et] at ht
    rw [en]
    generalize cornerP l (i + 1) = b at *
    generalize cornerP l i = a at *
    repeat' first
           | (with_reducible apply go_op)
           | (with_reducible apply go_next)
           | ((with_reducible (show evOp _ _ _ _ _ _)); first
             | ((with_reducible (show evOp _ (.move _) _ _ _ _)) ; first | ((with_reducible apply go_mv_int); rfl; rfl) | ((with_reducible apply go_mv_sl); rfl; rfl))
             | ((with_reducible apply go_as))
             | (((with_reducible apply go_ld_ptr); rfl; rfl; rfl))
             | (((with_reducible apply go_index); rfl; rfl; (intro; rfl); rfl; omega; intro hlt))
             | ((with_reducible (show evOp _ (.binOp _ _ _ _ _) _ _ _ _)) ; first | ((with_reducible apply go_cmp); rfl; rfl; rfl; rfl) | ((with_reducible apply go_add); rfl; rfl; rfl; omega))
             | ((with_reducible (show evOp _ (.call _) _ _ _ _)) ; first | ((with_reducible apply go_len); rfl; rfl) | ((with_reducible apply go_fn_plain); rfl; (exact k0); rfl; (exact Nat.le_of_ble_eq_true rfl); rfl) | ((with_reducible apply go_fn_plain); rfl; (exact k1); rfl; (exact Nat.le_of_ble_eq_true rfl); rfl) | ((with_reducible apply go_fn_int); rfl; (exact x1); rfl)))
           | ((with_reducible (show evOps _ _ _ _ _ _)); first
             | (with_reducible apply go_nil)
             | (with_reducible apply go_take)
             | (with_reducible apply go_take0)
             | (with_reducible apply go_drop)
             | (with_reducible apply go_drop0))
           | ((with_reducible (show evG _ _ _ _ _)); first
             | (with_reducible apply go_seq)
             | (with_reducible apply go_region)
             | (((with_reducible apply go_cond); rfl) <;> (intro h; simp only [h]; try simp only [decide_eq_true_eq, decide_eq_false_iff_not, Bool.not_eq_true', Bool.not_eq_false', Bool.not_true, Bool.not_false] at h; try exact absurd trivial h))
             | ((with_reducible apply (go_drawM 13)); decide +kernel; rfl)
             | (with_reducible apply go_skipc)
             | (with_reducible apply go_block)
             | (with_reducible apply go_exit))
           | (with_reducible apply go_kseq)
           | (with_reducible apply go_kblock)
           | (with_reducible apply go_kblock_exit)
           | (with_reducible apply go_kdrop)
           | (with_reducible apply go_kseq_exit)
    all_goals first
      | (exfalso; omega)
      | exact ⟨h2, trivial, entails_eq (nx := 0) (k := 0) (ns := []) (ks := [4, 3, 0]) [] rfl (by simp) (by kernel_rfl)⟩
      | trace_state
  · have en : i = l.length := by omega
    subst en
    have ha := c_abs (sumTo (areaT l) l.length) (by omega) (by omega)
    repeat' first
           | (with_reducible apply go_op)
           | (with_reducible apply go_next)
           | ((with_reducible (show evOp _ _ _ _ _ _)); first
             | ((with_reducible (show evOp _ (.move _) _ _ _ _)) ; first | ((with_reducible apply go_mv_int); rfl; rfl) | ((with_reducible apply go_mv_sl); rfl; rfl))
             | ((with_reducible apply go_as))
             | (((with_reducible apply go_ld_ptr); rfl; rfl; rfl))
             | (((with_reducible apply go_index); rfl; rfl; (intro; rfl); rfl; omega; intro hlt))
             | (((with_reducible apply go_cmp); rfl; rfl; rfl; rfl))
             | ((with_reducible (show evOp _ (.call _) _ _ _ _)) ; first | ((with_reducible apply go_len); rfl; rfl) | ((with_reducible apply go_fn_int); rfl; (exact ha); rfl)))
           | ((with_reducible (show evOps _ _ _ _ _ _)); first
             | (with_reducible apply go_nil)
             | (with_reducible apply go_take))
           | ((with_reducible (show evG _ _ _ _ _)); first
             | (with_reducible apply go_seq)
             | (with_reducible apply go_region)
             | (((with_reducible apply go_cond); rfl) <;> (intro h; simp only [h]; try simp only [decide_eq_true_eq, decide_eq_false_iff_not, Bool.not_eq_true', Bool.not_eq_false', Bool.not_true, Bool.not_false] at h; try exact absurd trivial h))
             | ((with_reducible apply (go_drawM 13)); decide +kernel; rfl)
             | (with_reducible apply go_ret)
             | (with_reducible apply go_skipc)
             | (with_reducible apply go_block)
             | (with_reducible apply go_exit))
           | (with_reducible apply go_kseq)
           | (with_reducible apply go_kblock_exit)
           | (with_reducible apply go_kseq_exit)
           | ((with_reducible apply end_int); rfl)
    all_goals first
      | (exfalso; omega)
      | rfl
      | trace_state
end Go.Pv.Geo

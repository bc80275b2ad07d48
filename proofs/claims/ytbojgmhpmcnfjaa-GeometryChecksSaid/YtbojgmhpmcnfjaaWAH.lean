import Derived.Test.YtbojgmhpmcnfjaaProg
import Derived.Test.YtbojgmhpmcnfjaaWAG
import Derived.KernelRfl
import Derived.Test.YtbojgmhpmcnfjaaWAC
/- Part of the proofs over Ytbojgmhpmcnfjaa: JV, JR, JW, JX, JY, JZ, HR, HR4. -/
set_option linter.unusedVariables false
set_option linter.unusedSimpArgs false
set_option linter.unnecessarySimpa false
open Go Go.Proofs Go.Pv
set_option maxHeartbeats 8000000
set_option maxRecDepth 100000
set_option linter.unusedSimpArgs false
set_option linter.unusedVariables false
namespace Go.Pv.Geo
/-- The first place of a point, or -1. -/
theorem c_IndexPt (l : List Pt) (hl : l.length < 1000000000000) (p : Pt) : Contract Try.prog 127 [.sl (l.map encPt), .agg (encPt p)] (.ret (.int .i64 (idxOf (ptEq p) l))) := by
  refine contract_of mix Try.func127 rfl rfl (by rw [Try.ntmps127]; exact Nat.le_of_ble_eq_true rfl) ?_; rw [Try.results127, Try.ntmps127]; simp only [argsE, Nat.reduceAdd]
  repeat' first
           | (with_reducible apply go_op)
           | (with_reducible apply go_next)
           | ((with_reducible (show evOp _ _ _ _ _ _)); first
             | ((with_reducible (show evOp _ (.move _) _ _ _ _)) ; first | ((with_reducible apply go_mv_int); rfl; rfl) | ((with_reducible apply go_mv_sl); rfl; rfl))
             | ((with_reducible apply go_as))
             | (((with_reducible apply go_len); rfl; rfl))
             | (((with_reducible apply go_bx_agg); rfl; rfl; (exact Nat.le_of_ble_eq_true rfl); rfl; rfl)))
           | ((with_reducible (show evOps _ _ _ _ _ _)); first
             | (with_reducible apply go_nil))
           | ((with_reducible (show evG _ _ _ _ _)); first
             | (with_reducible apply go_seq)
             | (with_reducible apply go_region)
             | (with_reducible apply go_block))
           | (with_reducible apply go_kseq)
  all_goals try (exfalso; omega)
  refine go_count l.length (fun i => ⟨[(8, .int .i64 i), (7, .int .i64 l.length), (3, .op 0 0 0), (0, .sl (l.map encPt))], [(0, ⟨2, true, [encPt p]⟩)], 32, 19⟩) (fun i => ∀ j (hj : j < i) (hj' : j < l.length), ptEq p l[j] = false)
    (entails_eq (nx := 32) (k := 0) (ns := []) (ks := [8, 7, 3, 0]) [(0, 0)] rfl (by simp) (by kernel_rfl)) (fun j hj _ => absurd hj (Nat.not_lt_zero _)) ?_
  intro i hi hC
  by_cases h2 : i < l.length
  · have he : ptEq p l[i] = (decide (p.x = l[i].x) && (decide (p.y = l[i].y) && true)) := rfl
    repeat' first
           | (with_reducible apply go_op)
           | (with_reducible apply go_next)
           | ((with_reducible (show evOp _ _ _ _ _ _)); first
             | ((with_reducible (show evOp _ (.move _) _ _ _ _)) ; first | ((with_reducible apply go_mv_int); rfl; rfl) | ((with_reducible apply go_mv_sl); rfl; rfl))
             | ((with_reducible apply go_as))
             | ((with_reducible (show evOp _ (.load _ _) _ _ _ _)) ; first | ((with_reducible apply go_ld_ptr); rfl; rfl; rfl) | ((with_reducible apply go_ld_agg); rfl; rfl; rfl; rfl))
             | (((with_reducible apply go_index_nat); rfl; rfl; (with_reducible rfl); (intro; rfl); rfl; omega; (intro hlt)))
             | ((with_reducible (show evOp _ (.binOp _ _ _ _ _) _ _ _ _)) ; first | ((with_reducible apply go_cmp); rfl; rfl; rfl; rfl) | ((with_reducible apply go_add); rfl; rfl; rfl; omega) | ((with_reducible apply go_eql_agg); rfl; rfl; rfl; rfl)))
           | ((with_reducible (show evOps _ _ _ _ _ _)); first
             | (with_reducible apply go_nil)
             | ((with_reducible apply go_pre); rfl)
             | (with_reducible apply go_pre_nil)
             | ((with_reducible apply go_suf); rfl)
             | (with_reducible apply go_suf_nil))
           | ((with_reducible (show evG _ _ _ _ _)); first
             | (with_reducible apply go_seq)
             | (with_reducible apply go_region)
             | (((with_reducible apply go_cond); rfl) <;> (intro h; simp only [h]; try simp only [decide_eq_true_eq, decide_eq_false_iff_not, Bool.not_eq_true', Bool.not_eq_false', Bool.not_true, Bool.not_false] at h; try exact absurd trivial h))
             | ((with_reducible apply go_order); kernel_rfl; rfl)
             | (with_reducible apply go_ret)
             | (with_reducible apply go_skipc)
             | (with_reducible apply go_block)
             | (with_reducible apply go_exit))
           | (with_reducible apply go_kseq)
           | (with_reducible apply go_ksuf)
           | (with_reducible apply go_kseq_ret)
           | (with_reducible apply go_kblock)
           | (with_reducible apply go_kblock_ret)
           | (with_reducible apply go_kblock_exit)
           | (with_reducible apply go_kseq_exit)
           | ((with_reducible apply end_int); rfl)
    all_goals first
      | (exfalso; omega)
      | (refine (idxOf_some h2 (he.trans (by assumption)) fun j hj => hC j hj (by omega)).symm)
      | (refine ⟨h2, fun j hj hj' => ?_, entails_eq (nx := 32) (k := 0) (ns := []) (ks := [8, 7, 3, 0]) [(0, 0)] rfl (by simp) (by kernel_rfl)⟩
         rcases Nat.lt_succ_iff_lt_or_eq.1 hj with h' | rfl
         · exact hC j h' hj'
         · exact he.trans (by assumption))
      | trace_state
  · repeat' first
           | (with_reducible apply go_op)
           | (with_reducible apply go_next)
           | ((with_reducible (show evOp _ _ _ _ _ _)); first
             | ((with_reducible (show evOp _ (.move _) _ _ _ _)) ; first | ((with_reducible apply go_mv_int); rfl; rfl) | ((with_reducible apply go_mv_sl); rfl; rfl))
             | ((with_reducible apply go_as))
             | ((with_reducible (show evOp _ (.load _ _) _ _ _ _)) ; first | ((with_reducible apply go_ld_ptr); rfl; rfl; rfl) | ((with_reducible apply go_ld_agg); rfl; rfl; rfl; rfl))
             | (((with_reducible apply go_index_nat); rfl; rfl; (with_reducible rfl); (intro; rfl); rfl; omega; (intro hlt)))
             | ((with_reducible (show evOp _ (.binOp _ _ _ _ _) _ _ _ _)) ; first | ((with_reducible apply go_cmp); rfl; rfl; rfl; rfl) | ((with_reducible apply go_add); rfl; rfl; rfl; omega) | ((with_reducible apply go_eql_agg); rfl; rfl; rfl; rfl)))
           | ((with_reducible (show evOps _ _ _ _ _ _)); first
             | (with_reducible apply go_nil)
             | ((with_reducible apply go_pre); rfl)
             | (with_reducible apply go_pre_nil)
             | ((with_reducible apply go_suf); rfl)
             | (with_reducible apply go_suf_nil))
           | ((with_reducible (show evG _ _ _ _ _)); first
             | (with_reducible apply go_seq)
             | (with_reducible apply go_region)
             | (((with_reducible apply go_cond); rfl) <;> (intro h; simp only [h]; try simp only [decide_eq_true_eq, decide_eq_false_iff_not, Bool.not_eq_true', Bool.not_eq_false', Bool.not_true, Bool.not_false] at h; try exact absurd trivial h))
             | ((with_reducible apply go_order); kernel_rfl; rfl)
             | (with_reducible apply go_ret)
             | (with_reducible apply go_skipc)
             | (with_reducible apply go_block)
             | (with_reducible apply go_exit))
           | (with_reducible apply go_kseq)
           | (with_reducible apply go_ksuf)
           | (with_reducible apply go_kseq_ret)
           | (with_reducible apply go_kblock)
           | (with_reducible apply go_kblock_ret)
           | (with_reducible apply go_kblock_exit)
           | (with_reducible apply go_kseq_exit)
           | ((with_reducible apply end_int); rfl)
    all_goals first
      | (exfalso; omega)
      | (refine (idxOf_none fun x hx => ?_).symm
         obtain ⟨j, hj, rfl⟩ := List.mem_iff_getElem.1 hx
         exact hC j (by omega) hj)
      | trace_state
theorem c_ContainsPt (l : List Pt) (hl : l.length < 1000000000000) (p : Pt) : Contract Try.prog 112 [.sl (l.map encPt), .agg (encPt p)] (.ret (.bool (l.any (ptEq p)))) := by
  have k := c_IndexPt l hl p
  rw [← idxOf_ge]
  refine contract_of mix Try.func112 rfl rfl (by rw [Try.ntmps112]; exact Nat.le_of_ble_eq_true rfl) ?_; rw [Try.results112, Try.ntmps112]; simp only [argsE, Nat.reduceAdd]
  repeat' first
           | (with_reducible apply go_op)
           | (with_reducible apply go_next)
           | ((with_reducible (show evOp _ _ _ _ _ _)); first
             | ((with_reducible (show evOp _ (.move _) _ _ _ _)) ; first | ((with_reducible apply go_mv_bool); rfl; rfl) | ((with_reducible apply go_mv_sl); rfl; rfl))
             | ((with_reducible apply go_as))
             | (((with_reducible apply go_ld_agg); rfl; rfl; rfl; rfl))
             | (((with_reducible apply go_cmp); rfl; rfl; rfl; rfl))
             | (((with_reducible apply go_fn_int); rfl; (exact k); rfl))
             | (((with_reducible apply go_bx_agg); rfl; rfl; (exact Nat.le_of_ble_eq_true rfl); rfl; rfl)))
           | ((with_reducible (show evOps _ _ _ _ _ _)); first
             | (with_reducible apply go_nil))
           | ((with_reducible (show evG _ _ _ _ _)); first
             | (with_reducible apply go_seq)
             | (with_reducible apply go_region)
             | (with_reducible apply go_ret))
           | (with_reducible apply go_kseq)
           | ((with_reducible apply end_bool); rfl)
           | (with_reducible rfl)
  all_goals first
    | rfl
    | trace_state
/-- The error of a patch. -/
def dupB (l : List Pt) : Bool := (List.range l.length).any fun i => (l.take i).any (ptEq (ptL l i))
def patchE (l : List Pt) : Int := if chkE l ≠ 0 then chkE l else if dupB l = true then 5 else if farL l = true then 8 else if (hullR l).length < 3 then 10 else 0
theorem dup_nodup {l : List Pt} (h : dupB l = false) : l.Nodup := by
  unfold dupB at h
  rw [List.any_eq_false] at h
  refine List.pairwise_iff_getElem.2 fun i j hi hj hij e => ?_
  have := h j (List.mem_range.2 hj)
  apply this
  rw [List.any_eq_true]
  refine ⟨l[i], ?_, ?_⟩
  · rw [List.mem_take_iff_getElem]; exact ⟨i, by omega, rfl⟩
  · rw [ptL_get hj, ptEq_iff]; exact e.symm
theorem dup_yes {l : List Pt} {i : Nat} (hi : i < l.length) (h : (l.take i).any (ptEq l[i]) = true) : dupB l = true := by
  unfold dupB
  rw [List.any_eq_true]
  exact ⟨i, List.mem_range.2 hi, by rw [ptL_get hi]; exact h⟩
theorem dup_no {l : List Pt} (h : ∀ i (hi : i < l.length), (l.take i).any (ptEq l[i]) = false) : dupB l = false := by
  unfold dupB
  rw [List.any_eq_false]
  intro i hi
  rw [ptL_get (List.mem_range.1 hi), h i (List.mem_range.1 hi)]; simp
theorem patch_ok {l : List Pt} (h : patchE l = 0) : chkE l = 0 ∧ l.Nodup ∧ farL l = false := by
  unfold patchE at h
  by_cases h1 : chkE l = 0
  · rw [if_neg (by omega)] at h
    cases h2 : dupB l
    · rw [h2] at h
      cases h3 : farL l
      · exact ⟨h1, dup_nodup h2, rfl⟩
      · rw [h3] at h; simp at h
    · rw [h2] at h; simp at h
  · rw [if_pos h1] at h; exact absurd h h1
theorem c_patchErr (l : List Pt) (hl : l.length < 1000000000000) : Contract Try.prog 80 [.sl (l.map encPt)] (.ret (.int .i64 (patchE l))) := by
  have h1 := c_Check l hl
  by_cases hz : chkE l = 0
  rotate_left
  · rw [show patchE l = chkE l from if_pos hz]
    generalize chkE l = e at *
    refine contract_of mix Try.func80 rfl rfl (by rw [Try.ntmps80]; exact Nat.le_of_ble_eq_true rfl) ?_; rw [Try.results80, Try.ntmps80]; simp only [argsE, Nat.reduceAdd]
    repeat' first
           | (with_reducible apply go_op)
           | (with_reducible apply go_next)
           | ((with_reducible (show evOp _ _ _ _ _ _)); first
             | ((with_reducible (show evOp _ (.move _) _ _ _ _)) ; first | ((with_reducible apply go_mv_int); rfl; rfl) | ((with_reducible apply go_mv_sl); rfl; rfl))
             | ((with_reducible apply go_as))
             | (((with_reducible apply go_cmp); rfl; rfl; rfl; rfl))
             | ((with_reducible (show evOp _ (.call _) _ _ _ _)) ; first | ((with_reducible apply go_len); rfl; rfl) | ((with_reducible apply go_fn_int); rfl; (exact h1); rfl)))
           | ((with_reducible (show evOps _ _ _ _ _ _)); first
             | (with_reducible apply go_nil))
           | ((with_reducible (show evG _ _ _ _ _)); first
             | (with_reducible apply go_seq)
             | (with_reducible apply go_region)
             | (((with_reducible apply go_cond); rfl) <;> (intro h; simp only [h]; try simp only [decide_eq_true_eq, decide_eq_false_iff_not, Bool.not_eq_true', Bool.not_eq_false', Bool.not_true, Bool.not_false] at h; try exact absurd trivial h))
             | (with_reducible apply go_ret)
             | (with_reducible apply go_skipc)
             | (with_reducible apply go_block))
           | (with_reducible apply go_kseq)
           | (with_reducible apply go_kseq_ret)
           | ((with_reducible apply end_int); rfl)
           | (with_reducible rfl)
    all_goals first
      | (exfalso; omega)
      | rfl
      | trace_state
  obtain ⟨h64, hok⟩ := chk_ok hz
  rw [hz] at h1
  have ep : patchE l = if dupB l = true then 5 else if farL l = true then 8 else if (hullR l).length < 3 then 10 else 0 := if_neg (by omega)
  have h2 := c_apart l hl hok
  have h3 := c_hull l (by omega) hok
  refine contract_of mix Try.func80 rfl rfl (by rw [Try.ntmps80]; exact Nat.le_of_ble_eq_true rfl) ?_; rw [Try.results80, Try.ntmps80]; simp only [argsE, Nat.reduceAdd]
  repeat' first
           | (with_reducible apply go_op)
           | (with_reducible apply go_next)
           | ((with_reducible (show evOp _ _ _ _ _ _)); first
             | ((with_reducible (show evOp _ (.move _) _ _ _ _)) ; first | ((with_reducible apply go_mv_int); rfl; rfl) | ((with_reducible apply go_mv_sl); rfl; rfl))
             | ((with_reducible apply go_as))
             | (((with_reducible apply go_cmp); rfl; rfl; rfl; rfl))
             | ((with_reducible (show evOp _ (.call _) _ _ _ _)) ; first | ((with_reducible apply go_len); rfl; rfl) | ((with_reducible apply go_fn_int); rfl; (exact h1); rfl)))
           | ((with_reducible (show evOps _ _ _ _ _ _)); first
             | (with_reducible apply go_nil))
           | ((with_reducible (show evG _ _ _ _ _)); first
             | (with_reducible apply go_seq)
             | (with_reducible apply go_region)
             | ((with_reducible apply go_cond_f); rfl; rfl)
             | (with_reducible apply go_skipc)
             | (with_reducible apply go_block))
           | (with_reducible apply go_kseq)
  all_goals try (exfalso; omega)
  refine go_count l.length (fun i => ⟨[(13, .int .i64 i), (12, .int .i64 l.length), (11, .sl (l.map encPt)), (0, .sl (l.map encPt))], [], 32, 30⟩) (fun i => ∀ j (hj : j < l.length), j < i → (l.take j).any (ptEq l[j]) = false)
    (entails_eq (nx := 32) (k := 0) (ns := []) (ks := [13, 12, 11, 0]) [] rfl (by simp) (by kernel_rfl)) (fun j hj h => absurd h (Nat.not_lt_zero _)) ?_
  intro i hi hC
  by_cases hlt : i < l.length
  · have k1 := c_ContainsPt (l.take i) (by rw [List.length_take]; omega) l[i]
    have hyes : (l.take i).any (ptEq l[i]) = true → patchE l = 5 := fun h => by rw [ep, if_pos (dup_yes hlt h)]
    generalize hv : (l.take i).any (ptEq l[i]) = v at *
    repeat' first
           | (with_reducible apply go_op)
           | (with_reducible apply go_next)
           | ((with_reducible (show evOp _ _ _ _ _ _)); first
             | ((with_reducible (show evOp _ (.move _) _ _ _ _)) ; first | ((with_reducible apply go_mv_int); rfl; rfl) | ((with_reducible apply go_mv_sl); rfl; rfl))
             | ((with_reducible apply go_as))
             | ((with_reducible (show evOp _ (.load _ _) _ _ _ _)) ; first | ((with_reducible apply go_ld_ptr); rfl; rfl; rfl) | ((with_reducible apply go_ld_agg); rfl; rfl; rfl; rfl))
             | (((with_reducible apply go_index_nat); rfl; rfl; (with_reducible rfl); (intro; rfl); rfl; omega; (intro hlt)))
             | ((with_reducible (show evOp _ (.binOp _ _ _ _ _) _ _ _ _)) ; first | ((with_reducible apply go_cmp); rfl; rfl; rfl; rfl) | ((with_reducible apply go_add); rfl; rfl; rfl; omega))
             | (((with_reducible apply go_fn_bool); rfl; (exact k1); rfl))
             | (((with_reducible apply go_st_agg); rfl; rfl; rfl; rfl; rfl; rfl; rfl))
             | (((with_reducible apply go_take_sl); rfl; rfl; (intro; rfl); rfl; omega))
             | (((with_reducible apply go_alloc); rfl; rfl; rfl)))
           | ((with_reducible (show evOps _ _ _ _ _ _)); first
             | (with_reducible apply go_nil)
             | ((with_reducible apply go_pre); rfl)
             | (with_reducible apply go_pre_nil)
             | ((with_reducible apply go_suf); rfl)
             | (with_reducible apply go_suf_nil))
           | ((with_reducible (show evG _ _ _ _ _)); first
             | (with_reducible apply go_seq)
             | (with_reducible apply go_region)
             | (((with_reducible apply go_cond); rfl) <;> (intro h; simp only [h]; try simp only [decide_eq_true_eq, decide_eq_false_iff_not, Bool.not_eq_true', Bool.not_eq_false', Bool.not_true, Bool.not_false] at h; try exact absurd trivial h))
             | ((with_reducible apply go_order); kernel_rfl; rfl)
             | (with_reducible apply go_ret)
             | (with_reducible apply go_skipc)
             | (with_reducible apply go_block)
             | (with_reducible apply go_exit))
           | (with_reducible apply go_kseq)
           | (with_reducible apply go_ksuf)
           | (with_reducible apply go_kseq_ret)
           | (with_reducible apply go_kblock)
           | (with_reducible apply go_kblock_ret)
           | (with_reducible apply go_kblock_exit)
           | (with_reducible apply go_kseq_exit)
           | ((with_reducible apply end_int); rfl)
    all_goals try (exfalso; omega)
    all_goals first
      | exact (hyes (by assumption)).symm
      | (refine ⟨by omega, fun j hj hji => ?_, entails_eq (nx := 32) (k := 0) (ns := []) (ks := [13, 12, 11, 0]) [] rfl (by simp) (by kernel_rfl)⟩
         rcases Nat.lt_succ_iff_lt_or_eq.1 hji with h' | rfl
         · exact hC j hj h'
         · exact hv.trans (by assumption))
  · have hd : dupB l = false := dup_no fun j hj => hC j hj (by omega)
    rw [hd] at ep
    rw [ep]
    generalize hullR l = H at *
    generalize farL l = v at *
    repeat' first
           | (with_reducible apply go_op)
           | (with_reducible apply go_next)
           | ((with_reducible (show evOp _ _ _ _ _ _)); first
             | ((with_reducible (show evOp _ (.move _) _ _ _ _)) ; first | ((with_reducible apply go_mv_int); rfl; rfl) | ((with_reducible apply go_mv_sl); rfl; rfl))
             | ((with_reducible apply go_as))
             | ((with_reducible (show evOp _ (.load _ _) _ _ _ _)) ; first | ((with_reducible apply go_ld_ptr); rfl; rfl; rfl) | ((with_reducible apply go_ld_agg); rfl; rfl; rfl; rfl))
             | (((with_reducible apply go_index_nat); rfl; rfl; (with_reducible rfl); (intro; rfl); rfl; omega; (intro hlt)))
             | (((with_reducible apply go_cmp); rfl; rfl; rfl; rfl))
             | ((with_reducible (show evOp _ (.call _) _ _ _ _)) ; first | ((with_reducible apply go_len_own); rfl; rfl; rfl) | ((with_reducible apply go_fn_bool); rfl; (exact h2); rfl) | ((with_reducible apply go_fn_fr); rfl; (exact h3); (exact scalPt); rfl))
             | (((with_reducible apply go_st_agg); rfl; rfl; rfl; rfl; rfl; rfl; rfl))
             | (((with_reducible apply go_take_sl); rfl; rfl; (intro; rfl); rfl; omega))
             | (((with_reducible apply go_alloc); rfl; rfl; rfl)))
           | ((with_reducible (show evOps _ _ _ _ _ _)); first
             | (with_reducible apply go_nil)
             | ((with_reducible apply go_pre); rfl))
           | ((with_reducible (show evG _ _ _ _ _)); first
             | (with_reducible apply go_seq)
             | (with_reducible apply go_region)
             | (((with_reducible apply go_cond); rfl) <;> (intro h; simp only [h]; try simp only [decide_eq_true_eq, decide_eq_false_iff_not, Bool.not_eq_true', Bool.not_eq_false', Bool.not_true, Bool.not_false] at h; try exact absurd trivial h))
             | ((with_reducible apply go_order); kernel_rfl; rfl)
             | (with_reducible apply go_ret)
             | (with_reducible apply go_skipc)
             | (with_reducible apply go_block)
             | (with_reducible apply go_exit))
           | (with_reducible apply go_kseq)
           | (with_reducible apply go_kseq_ret)
           | (with_reducible apply go_kblock_exit)
           | (with_reducible apply go_kseq_exit)
           | ((with_reducible apply end_int); rfl)
    all_goals try (exfalso; omega)
    all_goals first
      | (simp; done)
      | (rw [if_neg (by simp), if_neg (by simp), if_pos (by omega)])
      | (rw [if_neg (by simp), if_neg (by simp), if_neg (by omega)])
      | trace_state
theorem any_take {l : List Pt} {i : Nat} (hi : i < l.length) (h : ∀ k (hk : k < l.length), k < i → ptEq l[i] l[k] = false) : (l.take i).any (ptEq l[i]) = false := by
  rw [List.any_eq_false]
  intro x hx
  obtain ⟨k, hk, rfl⟩ := List.mem_take_iff_getElem.1 hx
  rw [h k (by omega) (by omega)]; simp
theorem take_any {l : List Pt} {i k : Nat} (hi : i < l.length) (hk : k < l.length) (hki : k < i) (h : ptEq l[i] l[k] = true) : (l.take i).any (ptEq l[i]) = true := by
  rw [List.any_eq_true]
  exact ⟨l[k], List.mem_take_iff_getElem.2 ⟨k, by omega, rfl⟩, h⟩
theorem c_CheckPatch (l : List Pt) (hl : l.length < 1000000000000) : Contract Try.prog 37 [.sl (l.map encPt)] (.ret (.int .i64 (patchE l))) := by
  have h1 := c_rCheck l hl
  by_cases hz : chkE l = 0
  rotate_left
  · rw [show patchE l = chkE l from if_pos hz]
    generalize chkE l = e at *
    refine contract_of mix Try.func37 rfl rfl (by rw [Try.ntmps37]; exact Nat.le_of_ble_eq_true rfl) ?_; rw [Try.results37, Try.ntmps37]; simp only [argsE, Nat.reduceAdd]
    repeat' first
           | (with_reducible apply go_op)
           | (with_reducible apply go_next)
           | ((with_reducible (show evOp _ _ _ _ _ _)); first
             | ((with_reducible (show evOp _ (.move _) _ _ _ _)) ; first | ((with_reducible apply go_mv_int); rfl; rfl) | ((with_reducible apply go_mv_sl); rfl; rfl))
             | ((with_reducible apply go_as))
             | (((with_reducible apply go_cmp); rfl; rfl; rfl; rfl))
             | (((with_reducible apply go_fn_int); rfl; (exact h1); rfl)))
           | ((with_reducible (show evOps _ _ _ _ _ _)); first
             | (with_reducible apply go_nil))
           | ((with_reducible (show evG _ _ _ _ _)); first
             | (with_reducible apply go_seq)
             | (with_reducible apply go_region)
             | (((with_reducible apply go_cond); rfl) <;> (intro h; simp only [h]; try simp only [decide_eq_true_eq, decide_eq_false_iff_not, Bool.not_eq_true', Bool.not_eq_false', Bool.not_true, Bool.not_false] at h; try exact absurd trivial h))
             | (with_reducible apply go_ret)
             | (with_reducible apply go_skipc)
             | (with_reducible apply go_block))
           | (with_reducible apply go_kseq)
           | (with_reducible apply go_kseq_ret)
           | ((with_reducible apply end_int); rfl)
           | (with_reducible rfl)
    all_goals first
      | (exfalso; omega)
      | rfl
      | trace_state
  obtain ⟨h64, hok⟩ := chk_ok hz
  rw [hz] at h1
  have ep : patchE l = if dupB l = true then 5 else if farL l = true then 8 else if (hullR l).length < 3 then 10 else 0 := if_neg (by omega)
  have h2 := c_close l hl hok
  have h3 := c_rHull l (by omega) hok
  refine contract_of mix Try.func37 rfl rfl (by rw [Try.ntmps37]; exact Nat.le_of_ble_eq_true rfl) ?_; rw [Try.results37, Try.ntmps37]; simp only [argsE, Nat.reduceAdd]
  repeat' first
           | (with_reducible apply go_op)
           | (with_reducible apply go_next)
           | ((with_reducible (show evOp _ _ _ _ _ _)); first
             | ((with_reducible (show evOp _ (.move _) _ _ _ _)) ; first | ((with_reducible apply go_mv_int); rfl; rfl) | ((with_reducible apply go_mv_sl); rfl; rfl))
             | ((with_reducible apply go_as))
             | (((with_reducible apply go_cmp); rfl; rfl; rfl; rfl))
             | (((with_reducible apply go_fn_int); rfl; (exact h1); rfl)))
           | ((with_reducible (show evOps _ _ _ _ _ _)); first
             | (with_reducible apply go_nil))
           | ((with_reducible (show evG _ _ _ _ _)); first
             | (with_reducible apply go_seq)
             | (with_reducible apply go_region)
             | ((with_reducible apply go_cond_f); rfl; rfl)
             | (with_reducible apply go_skipc)
             | (with_reducible apply go_block))
           | (with_reducible apply go_kseq)
  all_goals try (exfalso; omega)
  refine go_count l.length (fun i => ⟨[(4, .int .i64 i), (0, .sl (l.map encPt))], [], 32, 38⟩) (fun i => ∀ j (hj : j < l.length), j < i → (l.take j).any (ptEq l[j]) = false)
    (entails_eq (nx := 32) (k := 0) (ns := []) (ks := [4, 0]) [] rfl (by simp) (by kernel_rfl)) (fun j hj h => absurd h (Nat.not_lt_zero _)) ?_
  intro i hi hC
  by_cases hlt : i < l.length
  · have hyes : (l.take i).any (ptEq l[i]) = true → patchE l = 5 := fun h => by rw [ep, if_pos (dup_yes hlt h)]
    repeat' first
           | (with_reducible apply go_op)
           | (with_reducible apply go_next)
           | ((with_reducible (show evOp _ _ _ _ _ _)); first
             | ((with_reducible (show evOp _ (.move _) _ _ _ _)) ; first | ((with_reducible apply go_mv_int); rfl; rfl) | ((with_reducible apply go_mv_sl); rfl; rfl))
             | ((with_reducible apply go_as))
             | (((with_reducible apply go_cmp); rfl; rfl; rfl; rfl))
             | (((with_reducible apply go_len); rfl; rfl)))
           | ((with_reducible (show evOps _ _ _ _ _ _)); first
             | (with_reducible apply go_nil))
           | ((with_reducible (show evG _ _ _ _ _)); first
             | (with_reducible apply go_seq)
             | (with_reducible apply go_region)
             | (((with_reducible apply go_cond); rfl) <;> (intro h; simp only [h]; try simp only [decide_eq_true_eq, decide_eq_false_iff_not, Bool.not_eq_true', Bool.not_eq_false', Bool.not_true, Bool.not_false] at h; try exact absurd trivial h))
             | (with_reducible apply go_skipc)
             | (with_reducible apply go_block)
             | (with_reducible apply go_exit))
           | (with_reducible apply go_kseq)
           | (with_reducible apply go_kblock_exit)
           | (with_reducible apply go_kseq_exit)
    all_goals try (exfalso; omega)
    refine go_count i (fun k => ⟨[(5, .int .i64 k), (4, .int .i64 i), (0, .sl (l.map encPt))], [], 32, 38⟩) (fun k => ∀ j (hj : j < l.length), j < k → ptEq l[i] l[j] = false)
      (entails_eq (nx := 32) (k := 0) (ns := []) (ks := [5, 4, 0]) [] rfl (by simp) (by kernel_rfl)) (fun j hj h => absurd h (Nat.not_lt_zero _)) ?_
    intro k hk hCk
    by_cases hki : k < i
    · have hkl : k < l.length := by omega
      have he : ptEq l[i] l[k] = (decide (l[i].x = l[k].x) && (decide (l[i].y = l[k].y) && true)) := rfl
      repeat' first
           | (with_reducible apply go_op)
           | (with_reducible apply go_next)
           | ((with_reducible (show evOp _ _ _ _ _ _)); first
             | ((with_reducible (show evOp _ (.move _) _ _ _ _)) ; first | ((with_reducible apply go_mv_int); rfl; rfl) | ((with_reducible apply go_mv_sl); rfl; rfl))
             | ((with_reducible apply go_as))
             | (((with_reducible apply go_ld_ptr); rfl; rfl; rfl))
             | (((with_reducible apply go_index_nat); rfl; rfl; (with_reducible rfl); (intro; rfl); rfl; omega; (intro hlt)))
             | ((with_reducible (show evOp _ (.binOp _ _ _ _ _) _ _ _ _)) ; first | ((with_reducible apply go_cmp); rfl; rfl; rfl; rfl) | ((with_reducible apply go_add); rfl; rfl; rfl; omega) | ((with_reducible apply go_eql_agg); rfl; rfl; rfl; rfl)))
           | ((with_reducible (show evOps _ _ _ _ _ _)); first
             | (with_reducible apply go_nil)
             | ((with_reducible apply go_pre); rfl)
             | (with_reducible apply go_pre_nil)
             | ((with_reducible apply go_suf); rfl)
             | (with_reducible apply go_suf_nil))
           | ((with_reducible (show evG _ _ _ _ _)); first
             | (with_reducible apply go_seq)
             | (with_reducible apply go_region)
             | (((with_reducible apply go_cond); rfl) <;> (intro h; simp only [h]; try simp only [decide_eq_true_eq, decide_eq_false_iff_not, Bool.not_eq_true', Bool.not_eq_false', Bool.not_true, Bool.not_false] at h; try exact absurd trivial h))
             | ((with_reducible apply go_order); kernel_rfl; rfl)
             | (with_reducible apply go_ret)
             | (with_reducible apply go_skipc)
             | (with_reducible apply go_block)
             | (with_reducible apply go_exit))
           | (with_reducible apply go_kseq)
           | (with_reducible apply go_ksuf)
           | (with_reducible apply go_kseq_ret)
           | (with_reducible apply go_kblock)
           | (with_reducible apply go_kblock_ret)
           | (with_reducible apply go_kblock_exit)
           | (with_reducible apply go_kseq_exit)
           | ((with_reducible apply end_int); rfl)
      all_goals try (exfalso; omega)
      all_goals first
        | (have q := he.trans ‹(decide (l[i].x = l[k].x) && (decide (l[i].y = l[k].y) && true)) = true›; exact (hyes (take_any (by omega) hkl hki q)).symm)
        | (refine ⟨by omega, fun j hj hji => ?_, entails_eq (nx := 32) (k := 0) (ns := []) (ks := [5, 4, 0]) [] rfl (by simp) (by kernel_rfl)⟩
           rcases Nat.lt_succ_iff_lt_or_eq.1 hji with h' | rfl
           · exact hCk j hj h'
           · exact he.trans (by assumption))
        | trace_state
    · have e : k = i := by omega
      subst e
      have hnew := any_take hlt hCk
      repeat' first
           | (with_reducible apply go_op)
           | (with_reducible apply go_next)
           | ((with_reducible (show evOp _ _ _ _ _ _)); first
             | ((with_reducible (show evOp _ (.move _) _ _ _ _)) ; first | ((with_reducible apply go_mv_int); rfl; rfl) | ((with_reducible apply go_mv_sl); rfl; rfl))
             | ((with_reducible apply go_as))
             | (((with_reducible apply go_ld_ptr); rfl; rfl; rfl))
             | (((with_reducible apply go_index_nat); rfl; rfl; (with_reducible rfl); (intro; rfl); rfl; omega; (intro hlt)))
             | ((with_reducible (show evOp _ (.binOp _ _ _ _ _) _ _ _ _)) ; first | ((with_reducible apply go_cmp); rfl; rfl; rfl; rfl) | ((with_reducible apply go_add); rfl; rfl; rfl; omega) | ((with_reducible apply go_eql_agg); rfl; rfl; rfl; rfl)))
           | ((with_reducible (show evOps _ _ _ _ _ _)); first
             | (with_reducible apply go_nil)
             | ((with_reducible apply go_pre); rfl)
             | (with_reducible apply go_pre_nil)
             | ((with_reducible apply go_suf); rfl)
             | (with_reducible apply go_suf_nil))
           | ((with_reducible (show evG _ _ _ _ _)); first
             | (with_reducible apply go_seq)
             | (with_reducible apply go_region)
             | (((with_reducible apply go_cond); rfl) <;> (intro h; simp only [h]; try simp only [decide_eq_true_eq, decide_eq_false_iff_not, Bool.not_eq_true', Bool.not_eq_false', Bool.not_true, Bool.not_false] at h; try exact absurd trivial h))
             | ((with_reducible apply go_order); kernel_rfl; rfl)
             | (with_reducible apply go_ret)
             | (with_reducible apply go_skipc)
             | (with_reducible apply go_block)
             | (with_reducible apply go_exit))
           | (with_reducible apply go_kseq)
           | (with_reducible apply go_ksuf)
           | (with_reducible apply go_kseq_ret)
           | (with_reducible apply go_kblock)
           | (with_reducible apply go_kblock_ret)
           | (with_reducible apply go_kblock_exit)
           | (with_reducible apply go_kseq_exit)
           | ((with_reducible apply end_int); rfl)
      all_goals try (exfalso; omega)
      refine ⟨by omega, fun j hj hji => ?_, entails_eq (nx := 32) (k := 0) (ns := []) (ks := [4, 0]) [] rfl (by simp) (by kernel_rfl)⟩
      rcases Nat.lt_succ_iff_lt_or_eq.1 hji with h' | rfl
      · exact hC j hj h'
      · exact hnew
  · have hd : dupB l = false := dup_no fun j hj => hC j hj (by omega)
    rw [hd] at ep
    rw [ep]
    generalize hullR l = H at *
    generalize farL l = v at *
    repeat' first
           | (with_reducible apply go_op)
           | (with_reducible apply go_next)
           | ((with_reducible (show evOp _ _ _ _ _ _)); first
             | ((with_reducible (show evOp _ (.move _) _ _ _ _)) ; first | ((with_reducible apply go_mv_int); rfl; rfl) | ((with_reducible apply go_mv_sl); rfl; rfl))
             | ((with_reducible apply go_as))
             | (((with_reducible apply go_cmp); rfl; rfl; rfl; rfl))
             | ((with_reducible (show evOp _ (.call _) _ _ _ _)) ; first | ((with_reducible apply go_len); rfl; rfl) | ((with_reducible apply go_len_own); rfl; rfl; rfl) | ((with_reducible apply go_fn_bool); rfl; (exact h2); rfl) | ((with_reducible apply go_fn_fr); rfl; (exact h3); (exact scalPt); rfl))
             | (((with_reducible apply go_not); rfl; rfl)))
           | ((with_reducible (show evOps _ _ _ _ _ _)); first
             | (with_reducible apply go_nil))
           | ((with_reducible (show evG _ _ _ _ _)); first
             | (with_reducible apply go_seq)
             | (with_reducible apply go_region)
             | (((with_reducible apply go_cond); rfl) <;> (intro h; simp only [h]; try simp only [decide_eq_true_eq, decide_eq_false_iff_not, Bool.not_eq_true', Bool.not_eq_false', Bool.not_true, Bool.not_false] at h; try exact absurd trivial h))
             | (with_reducible apply go_ret)
             | (with_reducible apply go_skipc)
             | (with_reducible apply go_block)
             | (with_reducible apply go_exit))
           | (with_reducible apply go_kseq)
           | (with_reducible apply go_kseq_ret)
           | (with_reducible apply go_kblock_exit)
           | (with_reducible apply go_kseq_exit)
           | ((with_reducible apply end_int); rfl)
    all_goals try (exfalso; omega)
    all_goals first
      | (simp_all; done)
      | (rw [if_neg (by simp), if_neg (by simp_all), if_pos (by omega)])
      | (rw [if_neg (by simp), if_neg (by simp_all), if_neg (by omega)])
      | trace_state
end Go.Pv.Geo

open Go Go.Proofs Go.Pv
set_option maxHeartbeats 8000000
set_option maxRecDepth 100000
set_option linter.unusedSimpArgs false
set_option linter.unusedVariables false
namespace Go.Pv.Geo
def fstT (f1 f2 : Nat) : Nat → Int
  | 0 => 0
  | 1 => f1
  | _ => f2
theorem c_rBelongs (l : List Pt) (hl : l.length ≤ 64) (hok : ∀ p ∈ l, ptOK p = true) (hf : farL l = false) (hn : l.Nodup) (i j k : Nat) (hi : i < l.length) (hj : j < l.length) (hk : k < l.length) (a b c : Pt) (ea : l[i] = a) (eb : l[j] = b) (ec : l[k] = c) (hcr : 0 < crossE a b c) :
    Contract Try.prog 84 [.sl (l.map encPt), .agg (encTri ⟨i, j, k⟩)] (.ret (.bool (belL l (rotT a b c 2).1 (rotT a b c 2).2.1 (rotT a b c 2).2.2))) := by
  have ma : a ∈ l := ea ▸ List.getElem_mem hi
  have mb : b ∈ l := eb ▸ List.getElem_mem hj
  have mc : c ∈ l := ec ▸ List.getElem_mem hk
  have oa := hok _ ma
  have ob := hok _ mb
  have oc := hok _ mc
  have hne := cross_ne hcr
  have hs1 : signE (crossE a b c) = 1 := by unfold signE; (repeat' split) <;> omega
  refine contract_of mix Try.func84 rfl rfl (by rw [Try.ntmps84]; exact Nat.le_of_ble_eq_true rfl) ?_; rw [Try.results84, Try.ntmps84]; simp only [argsE, Nat.reduceAdd]
  repeat' first
           | (with_reducible apply go_op)
           | (with_reducible apply go_next)
           | ((with_reducible (show evOp _ _ _ _ _ _)); first
             | ((with_reducible (show evOp _ (.move _) _ _ _ _)) ; first | ((with_reducible apply go_mv_int); rfl; rfl) | ((with_reducible apply go_mv_bool); rfl; rfl) | ((with_reducible apply go_mv_sl); rfl; rfl))
             | ((with_reducible apply go_as))
             | ((with_reducible (show evOp _ (.load _ _) _ _ _ _)) ; first | ((with_reducible apply go_ld_ptr); rfl; rfl; rfl) | ((with_reducible apply go_load_own); rfl; rfl; rfl; rfl))
             | (((with_reducible apply go_fieldAddr_own); rfl; rfl; rfl))
             | (((with_reducible apply go_index_nat); rfl; rfl; (with_reducible rfl); (intro; rfl); rfl; omega; (intro hlt)))
             | (((with_reducible apply go_st_agg); rfl; rfl; rfl; rfl; rfl; rfl; rfl))
             | (((with_reducible apply go_build); rfl; rfl))
             | (((with_reducible apply go_bx_agg); rfl; rfl; (exact Nat.le_of_ble_eq_true rfl); rfl; rfl))
             | (((with_reducible apply go_alloc); rfl; rfl; rfl)))
           | ((with_reducible (show evOps _ _ _ _ _ _)); first
             | (with_reducible apply go_nil)
             | ((with_reducible apply go_pre); rfl)
             | ((with_reducible apply go_pre_stop); rfl)
             | ((with_reducible apply go_suf); rfl)
             | ((with_reducible apply go_suf_stop); rfl))
           | ((with_reducible (show evG _ _ _ _ _)); first
             | (with_reducible apply go_seq)
             | (with_reducible apply go_region)
             | ((with_reducible apply go_order); kernel_rfl; rfl)
             | (with_reducible apply go_block))
           | (with_reducible apply go_kseq)
           | (with_reducible apply go_ksuf)
  all_goals try (exfalso; omega)
  have b1 := c_Before b a ob oa
  by_cases g1 : key b < key a
  · by_cases g2 : key c < key b
    · have b2 := c_Before c b oc (by assumption)
      rw [show rotT a b c 2 = (c, a, b) from rot_2 (by omega) (by omega)]
      simp only
      have hxy : 0 < crossE c a b := by first | exact hcr | (rw [cross_turn]; exact hcr) | (rw [← cross_turn]; exact hcr)
      have hdt : ∀ p, detE c a b p = detE a b c p := fun p => by first | rfl | exact det_turn _ _ _ _ | exact (det_turn _ _ _ _).symm | (rw [det_turn, det_turn])
      have hbc := bad_corner hxy (by omega) (by omega)
      have o1 := c_rorient a b c (by assumption) (by assumption) (by assumption)
      have ho1 : signE (crossE a b c) = 1 := by rw [cross_turn]; unfold signE; (repeat' split) <;> omega
      rw [ho1] at o1
      refine go_count 2 (fun m => ⟨[(7, .int .i64 ((m + 1 : Nat) : Int)), (6, .int .i64 (fstT 1 2 m)), (5, .op 1 0 0), (3, .op 0 0 0), (0, .sl (l.map encPt))], [(1, ⟨6, true, [encT3 a b c]⟩), (0, ⟨3, true, [encTri ⟨i, j, k⟩]⟩)], 32, 115⟩) (fun m => True)
        (entails_eq (nx := 32) (k := 0) (ns := []) (ks := [7, 6, 5, 3, 0]) [(576, 1), (0, 0)] rfl (by simp) (by subst ea eb ec; kernel_rfl)) trivial ?_
      intro m hm _
      have hm3 : m = 0 ∨ m = 1 ∨ m = 2 := by omega
      rcases hm3 with rfl | rfl | rfl
      · rw [show fstT 1 2 0 = (0 : Int) from rfl]
        repeat' first
           | (with_reducible apply go_op)
           | (with_reducible apply go_next)
           | ((with_reducible (show evOp _ _ _ _ _ _)); first
             | (((with_reducible apply go_mv_int); rfl; rfl))
             | ((with_reducible apply go_as))
             | (((with_reducible apply go_load_own); rfl; rfl; rfl; rfl))
             | (((with_reducible apply go_index_arr); rfl; rfl; rfl; rfl; omega))
             | ((with_reducible (show evOp _ (.binOp _ _ _ _ _) _ _ _ _)) ; first | ((with_reducible apply go_cmp); rfl; rfl; rfl; rfl) | ((with_reducible apply go_add); rfl; rfl; rfl; omega))
             | (((with_reducible apply go_fn_bool); rfl; (exact b1); rfl)))
           | ((with_reducible (show evOps _ _ _ _ _ _)); first
             | (with_reducible apply go_nil)
             | ((with_reducible apply go_pre); rfl)
             | (with_reducible apply go_pre_nil)
             | ((with_reducible apply go_suf); rfl)
             | (with_reducible apply go_suf_nil))
           | ((with_reducible (show evG _ _ _ _ _)); first
             | (with_reducible apply go_seq)
             | (with_reducible apply go_region)
             | ((with_reducible apply go_cond_t); rfl; rfl)
             | (((with_reducible apply go_cond); rfl) <;> (intro h; simp only [h]; try simp only [decide_eq_true_eq, decide_eq_false_iff_not, Bool.not_eq_true', Bool.not_eq_false', Bool.not_true, Bool.not_false] at h; try exact absurd trivial h))
             | ((with_reducible apply go_order); kernel_rfl; rfl)
             | (with_reducible apply go_skipc)
             | (with_reducible apply go_block))
           | (with_reducible apply go_kseq)
           | (with_reducible apply go_ksuf)
           | (with_reducible apply go_kblock)
        all_goals first
          | (exfalso; omega)
          | exact ⟨by omega, trivial, entails_eq (nx := 32) (k := 0) (ns := []) (ks := [7, 6, 5, 3, 0]) [(1, 1), (0, 0)] rfl (by simp) (by kernel_rfl)⟩
          | trace_state
      · rw [show fstT 1 2 1 = (1 : Int) from rfl]
        repeat' first
           | (with_reducible apply go_op)
           | (with_reducible apply go_next)
           | ((with_reducible (show evOp _ _ _ _ _ _)); first
             | (((with_reducible apply go_mv_int); rfl; rfl))
             | ((with_reducible apply go_as))
             | (((with_reducible apply go_load_own); rfl; rfl; rfl; rfl))
             | (((with_reducible apply go_index_arr); rfl; rfl; rfl; rfl; omega))
             | ((with_reducible (show evOp _ (.binOp _ _ _ _ _) _ _ _ _)) ; first | ((with_reducible apply go_cmp); rfl; rfl; rfl; rfl) | ((with_reducible apply go_add); rfl; rfl; rfl; omega))
             | (((with_reducible apply go_fn_bool); rfl; (exact b2); rfl)))
           | ((with_reducible (show evOps _ _ _ _ _ _)); first
             | (with_reducible apply go_nil)
             | ((with_reducible apply go_pre); rfl)
             | (with_reducible apply go_pre_nil)
             | ((with_reducible apply go_suf); rfl)
             | (with_reducible apply go_suf_nil))
           | ((with_reducible (show evG _ _ _ _ _)); first
             | (with_reducible apply go_seq)
             | (with_reducible apply go_region)
             | ((with_reducible apply go_cond_t); rfl; rfl)
             | (((with_reducible apply go_cond); rfl) <;> (intro h; simp only [h]; try simp only [decide_eq_true_eq, decide_eq_false_iff_not, Bool.not_eq_true', Bool.not_eq_false', Bool.not_true, Bool.not_false] at h; try exact absurd trivial h))
             | ((with_reducible apply go_order); kernel_rfl; rfl)
             | (with_reducible apply go_skipc)
             | (with_reducible apply go_block))
           | (with_reducible apply go_kseq)
           | (with_reducible apply go_ksuf)
           | (with_reducible apply go_kblock)
        all_goals first
          | (exfalso; omega)
          | exact ⟨by omega, trivial, entails_eq (nx := 32) (k := 0) (ns := []) (ks := [7, 6, 5, 3, 0]) [(1, 1), (0, 0)] rfl (by simp) (by kernel_rfl)⟩
          | trace_state
      · rw [show fstT 1 2 2 = (2 : Int) from rfl]
        repeat' first
           | (with_reducible apply go_op)
           | (with_reducible apply go_next)
           | ((with_reducible (show evOp _ _ _ _ _ _)); first
             | (((with_reducible apply go_mv_int); rfl; rfl))
             | ((with_reducible apply go_as))
             | (((with_reducible apply go_load_own); rfl; rfl; rfl; rfl))
             | (((with_reducible apply go_index_arr); rfl; rfl; rfl; rfl; omega))
             | ((with_reducible (show evOp _ (.binOp _ _ _ _ _) _ _ _ _)) ; first | ((with_reducible apply go_cmp); rfl; rfl; rfl; rfl) | ((with_reducible apply go_add); rfl; rfl; rfl; omega) | ((with_reducible apply go_rem_pos); rfl; rfl; rfl; omega))
             | (((with_reducible apply go_st_agg); rfl; rfl; rfl; rfl; rfl; rfl; rfl))
             | (((with_reducible apply go_alloc); rfl; rfl; rfl)))
           | ((with_reducible (show evOps _ _ _ _ _ _)); first
             | (with_reducible apply go_nil)
             | (with_reducible apply go_take)
             | (with_reducible apply go_take0))
           | ((with_reducible (show evG _ _ _ _ _)); first
             | (with_reducible apply go_seq)
             | (with_reducible apply go_region)
             | ((with_reducible apply go_cond_f); rfl; rfl)
             | ((with_reducible apply (go_drawL 12 [[5, 6, 7, 8, 9], []])); decide +kernel; rfl)
             | (with_reducible apply go_block)
             | (with_reducible apply go_exit))
           | (with_reducible apply go_klined)
           | (with_reducible apply go_line_drop)
           | (with_reducible apply go_line_drop0)
           | (with_reducible apply go_line)
           | (with_reducible apply go_line_nil)
           | (with_reducible apply go_kln)
           | (with_reducible apply go_again_nil)
           | ((with_reducible apply go_again); rfl; (intro id'))
           | ((with_reducible apply go_kagain); rfl)
           | (with_reducible apply go_kseq)
           | (with_reducible apply go_kblock_exit)
           | (with_reducible apply go_kseq_exit)
        all_goals try (exfalso; omega)
        refine go_count l.length (fun m => ⟨[(10, .int .i64 m), (9, .op 3 0 0), (8, .op 2 0 0), (6, .int .i64 2), (5, .op 1 0 0), (3, .op 0 0 0), (0, .sl (l.map encPt))], [(3, ⟨2, true, [encPt b]⟩), (2, ⟨2, true, [encPt a]⟩), (1, ⟨6, true, [encT3 a b c]⟩), (0, ⟨3, true, [encTri ⟨i, j, k⟩]⟩)], 32, 115⟩) (fun m => ∀ q (hq : q < l.length), q < m → badP c a b l[q] = false)
          (entails_eq (nx := 32) (k := 0) (ns := []) (ks := [10, 9, 8, 6, 5, 3, 0]) [(448, 3), (416, 2), (1, 1), (0, 0)] rfl (by simp) (by kernel_rfl)) (fun j hj h => absurd h (Nat.not_lt_zero _)) ?_
        intro m hm hC
        by_cases hlt : m < l.length
        · have hp : l[m] ∈ l := List.getElem_mem hlt
          have hop := hok _ hp
          have k1 := c_rInCircle a b c l[m] oa ob oc hop (near_l hf ma hp) (near_l hf mb hp) (near_l hf mc hp)
          rw [hs1, Int.mul_one] at k1
          have k2 := c_Before l[m] c hop (by assumption)
          have k3 := c_rorient a b l[m] (by assumption) (by assumption) hop
          have hno : badP c a b l[m] = true → belL l c a b = false := bel_no hp
          have hcn : (m = i ∨ m = j ∨ m = k) → badP c a b l[m] = false := fun h => by
            have : l[m] = a ∨ l[m] = b ∨ l[m] = c := by
              rcases h with rfl | rfl | rfl
              · exact .inl ea
              · exact .inr (.inl eb)
              · exact .inr (.inr ec)
            rcases this with h | h | h <;> rw [h] <;> first | exact hbc.1 | exact hbc.2.1 | exact hbc.2.2
          have hbd : ¬ (m = i ∨ m = j ∨ m = k) → badP c a b l[m] = (decide (0 < signE (detE a b c l[m])) || (decide (signE (detE a b c l[m]) = 0) && (decide (key l[m] < key c) || !decide (signE (crossE a b l[m]) = 1)))) := fun h => by
            rw [bad_ref hxy (fun e => h ?_) (fun e => h ?_), hdt]
            · have := (List.getElem_inj hn).1 (e.trans (by assumption : l[i] = a).symm); omega
            · have := (List.getElem_inj hn).1 (e.trans (by assumption : l[j] = b).symm); omega
          generalize signE (detE a b c l[m]) = u at *
          generalize signE (crossE a b l[m]) = w at *
          generalize decide (key l[m] < key c) = v at *
          repeat' first
           | (with_reducible apply go_op)
           | (with_reducible apply go_next)
           | ((with_reducible (show evOp _ _ _ _ _ _)); first
             | ((with_reducible (show evOp _ (.move _) _ _ _ _)) ; first | ((with_reducible apply go_mv_int); rfl; rfl) | ((with_reducible apply go_mv_bool); rfl; rfl) | ((with_reducible apply go_mv_sl); rfl; rfl))
             | ((with_reducible apply go_as))
             | ((with_reducible (show evOp _ (.load _ _) _ _ _ _)) ; first | ((with_reducible apply go_ld_ptr); rfl; rfl; rfl) | ((with_reducible apply go_ld_agg); rfl; rfl; rfl; rfl) | ((with_reducible apply go_load_own); rfl; rfl; rfl; rfl))
             | (((with_reducible apply go_fieldAddr_own); rfl; rfl; rfl))
             | ((with_reducible (show evOp _ (.indexAddr _ _ _) _ _ _ _)) ; first | ((with_reducible apply go_index_arr); rfl; rfl; rfl; rfl; omega) | ((with_reducible apply go_index_nat); rfl; rfl; (with_reducible rfl); (intro; rfl); rfl; omega; (intro hlt)))
             | ((with_reducible (show evOp _ (.binOp _ _ _ _ _) _ _ _ _)) ; first | ((with_reducible apply go_cmp); rfl; rfl; rfl; rfl) | ((with_reducible apply go_add); rfl; rfl; rfl; omega))
             | ((with_reducible (show evOp _ (.call _) _ _ _ _)) ; first | ((with_reducible apply go_len); rfl; rfl) | ((with_reducible apply go_fn_int); rfl; (exact k1); rfl) | ((with_reducible apply go_fn_bool); rfl; (exact k2); rfl) | ((with_reducible apply go_fn_int); rfl; (exact k3); rfl) | ((with_reducible apply go_fn_int); rfl; (exact o1); rfl))
             | (((with_reducible apply go_pick); rfl; rfl; rfl)))
           | ((with_reducible (show evOps _ _ _ _ _ _)); first
             | (with_reducible apply go_nil)
             | ((with_reducible apply go_run); rfl; rfl)
             | ((with_reducible apply go_pass); rfl; rfl; rfl)
             | ((with_reducible apply go_skip); rfl; rfl)
             | (((with_reducible apply go_guard); rfl) <;> (intro h; simp only [h, Bool.not_true, Bool.not_false]; (try with_reducible (refine ⟨rfl, ?_⟩)); try simp only [decide_eq_true_eq, decide_eq_false_iff_not, Bool.not_eq_true', Bool.not_eq_false', Bool.not_true, Bool.not_false] at h; try exact absurd trivial h))
             | ((with_reducible apply go_pre); rfl)
             | (with_reducible apply go_pre_nil)
             | ((with_reducible apply go_suf); rfl)
             | (with_reducible apply go_suf_nil))
           | ((with_reducible (show evG _ _ _ _ _)); first
             | (with_reducible apply go_seq)
             | (with_reducible apply go_region)
             | ((with_reducible apply go_cond_t); rfl; rfl)
             | ((with_reducible apply go_cond_f); rfl; rfl)
             | (((with_reducible apply go_cond); rfl) <;> (intro h; simp only [h]; try simp only [decide_eq_true_eq, decide_eq_false_iff_not, Bool.not_eq_true', Bool.not_eq_false', Bool.not_true, Bool.not_false] at h; try exact absurd trivial h))
             | ((with_reducible apply go_order); kernel_rfl; rfl)
             | (with_reducible apply go_ret)
             | (with_reducible apply go_skipc)
             | (with_reducible apply go_block)
             | (with_reducible apply go_exit))
           | (with_reducible apply go_kseq)
           | (with_reducible apply go_ksuf)
           | (with_reducible apply go_kseq_ret)
           | (with_reducible apply go_kblock)
           | (with_reducible apply go_kblock_ret)
           | (with_reducible apply go_kblock_exit)
           | (with_reducible apply go_kseq_exit)
           | ((with_reducible apply end_bool); rfl)
          all_goals try (exfalso; omega)
          all_goals first
            | exact (hno (by rw [hbd (by omega)]; simp [*])).symm
            | (refine ⟨by omega, fun q hq hqm => ?_, entails_eq (nx := 32) (k := 0) (ns := []) (ks := [10, 9, 8, 6, 5, 3, 0]) [(3, 3), (2, 2), (1, 1), (0, 0)] rfl (by simp) (by kernel_rfl)⟩
               rcases Nat.lt_succ_iff_lt_or_eq.1 hqm with h' | rfl
               · exact hC q hq h'
               · first | exact hcn (by omega) | (rw [hbd (by omega)]; simp [*]))
            | trace_state
        · have hy : belL l c a b = true := bel_yes fun q hq => hC q hq (by omega)
          rw [hy]
          repeat' first
           | (with_reducible apply go_op)
           | (with_reducible apply go_next)
           | ((with_reducible (show evOp _ _ _ _ _ _)); first
             | ((with_reducible (show evOp _ (.move _) _ _ _ _)) ; first | ((with_reducible apply go_mv_int); rfl; rfl) | ((with_reducible apply go_mv_bool); rfl; rfl) | ((with_reducible apply go_mv_sl); rfl; rfl))
             | ((with_reducible apply go_as))
             | ((with_reducible (show evOp _ (.load _ _) _ _ _ _)) ; first | ((with_reducible apply go_ld_ptr); rfl; rfl; rfl) | ((with_reducible apply go_load_own); rfl; rfl; rfl; rfl))
             | (((with_reducible apply go_fieldAddr_own); rfl; rfl; rfl))
             | ((with_reducible (show evOp _ (.indexAddr _ _ _) _ _ _ _)) ; first | ((with_reducible apply go_index_arr); rfl; rfl; rfl; rfl; omega) | ((with_reducible apply go_index_nat); rfl; rfl; (with_reducible rfl); (intro; rfl); rfl; omega; (intro hlt)))
             | ((with_reducible (show evOp _ (.binOp _ _ _ _ _) _ _ _ _)) ; first | ((with_reducible apply go_cmp); rfl; rfl; rfl; rfl) | ((with_reducible apply go_add); rfl; rfl; rfl; omega))
             | (((with_reducible apply go_len); rfl; rfl))
             | (((with_reducible apply go_pick); rfl; rfl; rfl)))
           | ((with_reducible (show evOps _ _ _ _ _ _)); first
             | (with_reducible apply go_nil)
             | ((with_reducible apply go_run); rfl; rfl)
             | ((with_reducible apply go_pass); rfl; rfl; rfl)
             | (((with_reducible apply go_guard); rfl) <;> (intro h; simp only [h, Bool.not_true, Bool.not_false]; (try with_reducible (refine ⟨rfl, ?_⟩)); try simp only [decide_eq_true_eq, decide_eq_false_iff_not, Bool.not_eq_true', Bool.not_eq_false', Bool.not_true, Bool.not_false] at h; try exact absurd trivial h))
             | ((with_reducible apply go_pre); rfl))
           | ((with_reducible (show evG _ _ _ _ _)); first
             | (with_reducible apply go_seq)
             | (with_reducible apply go_region)
             | ((with_reducible apply go_cond_t); rfl; rfl)
             | (((with_reducible apply go_cond); rfl) <;> (intro h; simp only [h]; try simp only [decide_eq_true_eq, decide_eq_false_iff_not, Bool.not_eq_true', Bool.not_eq_false', Bool.not_true, Bool.not_false] at h; try exact absurd trivial h))
             | ((with_reducible apply go_order); kernel_rfl; rfl)
             | (with_reducible apply go_ret)
             | (with_reducible apply go_skipc)
             | (with_reducible apply go_block)
             | (with_reducible apply go_exit))
           | (with_reducible apply go_kseq)
           | (with_reducible apply go_kblock_exit)
           | (with_reducible apply go_kseq_exit)
           | ((with_reducible apply end_bool); rfl)
           | (with_reducible rfl)
          all_goals first
            | (exfalso; omega)
            | rfl
            | trace_state

    · have b2 := c_Before c b oc (by assumption)
      rw [show rotT a b c 2 = (b, c, a) from rot_1 (by omega) (by omega)]
      simp only
      have hxy : 0 < crossE b c a := by first | exact hcr | (rw [cross_turn]; exact hcr) | (rw [← cross_turn]; exact hcr)
      have hdt : ∀ p, detE b c a p = detE a b c p := fun p => by first | rfl | exact det_turn _ _ _ _ | exact (det_turn _ _ _ _).symm | (rw [det_turn, det_turn])
      have hbc := bad_corner hxy (by omega) (by omega)
      have o1 := c_rorient c a b (by assumption) (by assumption) (by assumption)
      have ho1 : signE (crossE c a b) = 1 := by rw [cross_turn]; unfold signE; (repeat' split) <;> omega
      rw [ho1] at o1
      refine go_count 2 (fun m => ⟨[(7, .int .i64 ((m + 1 : Nat) : Int)), (6, .int .i64 (fstT 1 1 m)), (5, .op 1 0 0), (3, .op 0 0 0), (0, .sl (l.map encPt))], [(1, ⟨6, true, [encT3 a b c]⟩), (0, ⟨3, true, [encTri ⟨i, j, k⟩]⟩)], 32, 115⟩) (fun m => True)
        (entails_eq (nx := 32) (k := 0) (ns := []) (ks := [7, 6, 5, 3, 0]) [(576, 1), (0, 0)] rfl (by simp) (by subst ea eb ec; kernel_rfl)) trivial ?_
      intro m hm _
      have hm3 : m = 0 ∨ m = 1 ∨ m = 2 := by omega
      rcases hm3 with rfl | rfl | rfl
      · rw [show fstT 1 1 0 = (0 : Int) from rfl]
        repeat' first
           | (with_reducible apply go_op)
           | (with_reducible apply go_next)
           | ((with_reducible (show evOp _ _ _ _ _ _)); first
             | (((with_reducible apply go_mv_int); rfl; rfl))
             | ((with_reducible apply go_as))
             | (((with_reducible apply go_load_own); rfl; rfl; rfl; rfl))
             | (((with_reducible apply go_index_arr); rfl; rfl; rfl; rfl; omega))
             | ((with_reducible (show evOp _ (.binOp _ _ _ _ _) _ _ _ _)) ; first | ((with_reducible apply go_cmp); rfl; rfl; rfl; rfl) | ((with_reducible apply go_add); rfl; rfl; rfl; omega))
             | (((with_reducible apply go_fn_bool); rfl; (exact b1); rfl)))
           | ((with_reducible (show evOps _ _ _ _ _ _)); first
             | (with_reducible apply go_nil)
             | ((with_reducible apply go_pre); rfl)
             | (with_reducible apply go_pre_nil)
             | ((with_reducible apply go_suf); rfl)
             | (with_reducible apply go_suf_nil))
           | ((with_reducible (show evG _ _ _ _ _)); first
             | (with_reducible apply go_seq)
             | (with_reducible apply go_region)
             | ((with_reducible apply go_cond_t); rfl; rfl)
             | (((with_reducible apply go_cond); rfl) <;> (intro h; simp only [h]; try simp only [decide_eq_true_eq, decide_eq_false_iff_not, Bool.not_eq_true', Bool.not_eq_false', Bool.not_true, Bool.not_false] at h; try exact absurd trivial h))
             | ((with_reducible apply go_order); kernel_rfl; rfl)
             | (with_reducible apply go_skipc)
             | (with_reducible apply go_block))
           | (with_reducible apply go_kseq)
           | (with_reducible apply go_ksuf)
           | (with_reducible apply go_kblock)
        all_goals first
          | (exfalso; omega)
          | exact ⟨by omega, trivial, entails_eq (nx := 32) (k := 0) (ns := []) (ks := [7, 6, 5, 3, 0]) [(1, 1), (0, 0)] rfl (by simp) (by kernel_rfl)⟩
          | trace_state
      · rw [show fstT 1 1 1 = (1 : Int) from rfl]
        repeat' first
           | (with_reducible apply go_op)
           | (with_reducible apply go_next)
           | ((with_reducible (show evOp _ _ _ _ _ _)); first
             | (((with_reducible apply go_mv_int); rfl; rfl))
             | ((with_reducible apply go_as))
             | (((with_reducible apply go_load_own); rfl; rfl; rfl; rfl))
             | (((with_reducible apply go_index_arr); rfl; rfl; rfl; rfl; omega))
             | ((with_reducible (show evOp _ (.binOp _ _ _ _ _) _ _ _ _)) ; first | ((with_reducible apply go_cmp); rfl; rfl; rfl; rfl) | ((with_reducible apply go_add); rfl; rfl; rfl; omega))
             | (((with_reducible apply go_fn_bool); rfl; (exact b2); rfl)))
           | ((with_reducible (show evOps _ _ _ _ _ _)); first
             | (with_reducible apply go_nil)
             | ((with_reducible apply go_pre); rfl)
             | (with_reducible apply go_pre_nil)
             | ((with_reducible apply go_suf); rfl)
             | (with_reducible apply go_suf_nil))
           | ((with_reducible (show evG _ _ _ _ _)); first
             | (with_reducible apply go_seq)
             | (with_reducible apply go_region)
             | ((with_reducible apply go_cond_t); rfl; rfl)
             | (((with_reducible apply go_cond); rfl) <;> (intro h; simp only [h]; try simp only [decide_eq_true_eq, decide_eq_false_iff_not, Bool.not_eq_true', Bool.not_eq_false', Bool.not_true, Bool.not_false] at h; try exact absurd trivial h))
             | ((with_reducible apply go_order); kernel_rfl; rfl)
             | (with_reducible apply go_skipc)
             | (with_reducible apply go_block))
           | (with_reducible apply go_kseq)
           | (with_reducible apply go_ksuf)
           | (with_reducible apply go_kblock)
        all_goals first
          | (exfalso; omega)
          | exact ⟨by omega, trivial, entails_eq (nx := 32) (k := 0) (ns := []) (ks := [7, 6, 5, 3, 0]) [(1, 1), (0, 0)] rfl (by simp) (by kernel_rfl)⟩
          | trace_state
      · rw [show fstT 1 1 2 = (1 : Int) from rfl]
        repeat' first
           | (with_reducible apply go_op)
           | (with_reducible apply go_next)
           | ((with_reducible (show evOp _ _ _ _ _ _)); first
             | (((with_reducible apply go_mv_int); rfl; rfl))
             | ((with_reducible apply go_as))
             | (((with_reducible apply go_load_own); rfl; rfl; rfl; rfl))
             | (((with_reducible apply go_index_arr); rfl; rfl; rfl; rfl; omega))
             | ((with_reducible (show evOp _ (.binOp _ _ _ _ _) _ _ _ _)) ; first | ((with_reducible apply go_cmp); rfl; rfl; rfl; rfl) | ((with_reducible apply go_add); rfl; rfl; rfl; omega) | ((with_reducible apply go_rem_pos); rfl; rfl; rfl; omega))
             | (((with_reducible apply go_st_agg); rfl; rfl; rfl; rfl; rfl; rfl; rfl))
             | (((with_reducible apply go_alloc); rfl; rfl; rfl)))
           | ((with_reducible (show evOps _ _ _ _ _ _)); first
             | (with_reducible apply go_nil)
             | (with_reducible apply go_take)
             | (with_reducible apply go_take0))
           | ((with_reducible (show evG _ _ _ _ _)); first
             | (with_reducible apply go_seq)
             | (with_reducible apply go_region)
             | ((with_reducible apply go_cond_f); rfl; rfl)
             | ((with_reducible apply (go_drawL 12 [[5, 6, 7, 8, 9], []])); decide +kernel; rfl)
             | (with_reducible apply go_block)
             | (with_reducible apply go_exit))
           | (with_reducible apply go_klined)
           | (with_reducible apply go_line_drop)
           | (with_reducible apply go_line_drop0)
           | (with_reducible apply go_line)
           | (with_reducible apply go_line_nil)
           | (with_reducible apply go_kln)
           | (with_reducible apply go_again_nil)
           | ((with_reducible apply go_again); rfl; (intro id'))
           | ((with_reducible apply go_kagain); rfl)
           | (with_reducible apply go_kseq)
           | (with_reducible apply go_kblock_exit)
           | (with_reducible apply go_kseq_exit)
        all_goals try (exfalso; omega)
        refine go_count l.length (fun m => ⟨[(10, .int .i64 m), (9, .op 3 0 0), (8, .op 2 0 0), (6, .int .i64 1), (5, .op 1 0 0), (3, .op 0 0 0), (0, .sl (l.map encPt))], [(3, ⟨2, true, [encPt a]⟩), (2, ⟨2, true, [encPt c]⟩), (1, ⟨6, true, [encT3 a b c]⟩), (0, ⟨3, true, [encTri ⟨i, j, k⟩]⟩)], 32, 115⟩) (fun m => ∀ q (hq : q < l.length), q < m → badP b c a l[q] = false)
          (entails_eq (nx := 32) (k := 0) (ns := []) (ks := [10, 9, 8, 6, 5, 3, 0]) [(448, 3), (416, 2), (1, 1), (0, 0)] rfl (by simp) (by kernel_rfl)) (fun j hj h => absurd h (Nat.not_lt_zero _)) ?_
        intro m hm hC
        by_cases hlt : m < l.length
        · have hp : l[m] ∈ l := List.getElem_mem hlt
          have hop := hok _ hp
          have k1 := c_rInCircle a b c l[m] oa ob oc hop (near_l hf ma hp) (near_l hf mb hp) (near_l hf mc hp)
          rw [hs1, Int.mul_one] at k1
          have k2 := c_Before l[m] b hop (by assumption)
          have k3 := c_rorient c a l[m] (by assumption) (by assumption) hop
          have hno : badP b c a l[m] = true → belL l b c a = false := bel_no hp
          have hcn : (m = i ∨ m = j ∨ m = k) → badP b c a l[m] = false := fun h => by
            have : l[m] = a ∨ l[m] = b ∨ l[m] = c := by
              rcases h with rfl | rfl | rfl
              · exact .inl ea
              · exact .inr (.inl eb)
              · exact .inr (.inr ec)
            rcases this with h | h | h <;> rw [h] <;> first | exact hbc.1 | exact hbc.2.1 | exact hbc.2.2
          have hbd : ¬ (m = i ∨ m = j ∨ m = k) → badP b c a l[m] = (decide (0 < signE (detE a b c l[m])) || (decide (signE (detE a b c l[m]) = 0) && (decide (key l[m] < key b) || !decide (signE (crossE c a l[m]) = 1)))) := fun h => by
            rw [bad_ref hxy (fun e => h ?_) (fun e => h ?_), hdt]
            · have := (List.getElem_inj hn).1 (e.trans (by assumption : l[k] = c).symm); omega
            · have := (List.getElem_inj hn).1 (e.trans (by assumption : l[i] = a).symm); omega
          generalize signE (detE a b c l[m]) = u at *
          generalize signE (crossE c a l[m]) = w at *
          generalize decide (key l[m] < key b) = v at *
          repeat' first
           | (with_reducible apply go_op)
           | (with_reducible apply go_next)
           | ((with_reducible (show evOp _ _ _ _ _ _)); first
             | ((with_reducible (show evOp _ (.move _) _ _ _ _)) ; first | ((with_reducible apply go_mv_int); rfl; rfl) | ((with_reducible apply go_mv_bool); rfl; rfl) | ((with_reducible apply go_mv_sl); rfl; rfl))
             | ((with_reducible apply go_as))
             | ((with_reducible (show evOp _ (.load _ _) _ _ _ _)) ; first | ((with_reducible apply go_ld_ptr); rfl; rfl; rfl) | ((with_reducible apply go_ld_agg); rfl; rfl; rfl; rfl) | ((with_reducible apply go_load_own); rfl; rfl; rfl; rfl))
             | (((with_reducible apply go_fieldAddr_own); rfl; rfl; rfl))
             | ((with_reducible (show evOp _ (.indexAddr _ _ _) _ _ _ _)) ; first | ((with_reducible apply go_index_arr); rfl; rfl; rfl; rfl; omega) | ((with_reducible apply go_index_nat); rfl; rfl; (with_reducible rfl); (intro; rfl); rfl; omega; (intro hlt)))
             | ((with_reducible (show evOp _ (.binOp _ _ _ _ _) _ _ _ _)) ; first | ((with_reducible apply go_cmp); rfl; rfl; rfl; rfl) | ((with_reducible apply go_add); rfl; rfl; rfl; omega))
             | ((with_reducible (show evOp _ (.call _) _ _ _ _)) ; first | ((with_reducible apply go_len); rfl; rfl) | ((with_reducible apply go_fn_int); rfl; (exact k1); rfl) | ((with_reducible apply go_fn_bool); rfl; (exact k2); rfl) | ((with_reducible apply go_fn_int); rfl; (exact k3); rfl) | ((with_reducible apply go_fn_int); rfl; (exact o1); rfl))
             | (((with_reducible apply go_pick); rfl; rfl; rfl)))
           | ((with_reducible (show evOps _ _ _ _ _ _)); first
             | (with_reducible apply go_nil)
             | ((with_reducible apply go_run); rfl; rfl)
             | ((with_reducible apply go_pass); rfl; rfl; rfl)
             | ((with_reducible apply go_skip); rfl; rfl)
             | (((with_reducible apply go_guard); rfl) <;> (intro h; simp only [h, Bool.not_true, Bool.not_false]; (try with_reducible (refine ⟨rfl, ?_⟩)); try simp only [decide_eq_true_eq, decide_eq_false_iff_not, Bool.not_eq_true', Bool.not_eq_false', Bool.not_true, Bool.not_false] at h; try exact absurd trivial h))
             | ((with_reducible apply go_pre); rfl)
             | (with_reducible apply go_pre_nil)
             | ((with_reducible apply go_suf); rfl)
             | (with_reducible apply go_suf_nil))
           | ((with_reducible (show evG _ _ _ _ _)); first
             | (with_reducible apply go_seq)
             | (with_reducible apply go_region)
             | ((with_reducible apply go_cond_t); rfl; rfl)
             | ((with_reducible apply go_cond_f); rfl; rfl)
             | (((with_reducible apply go_cond); rfl) <;> (intro h; simp only [h]; try simp only [decide_eq_true_eq, decide_eq_false_iff_not, Bool.not_eq_true', Bool.not_eq_false', Bool.not_true, Bool.not_false] at h; try exact absurd trivial h))
             | ((with_reducible apply go_order); kernel_rfl; rfl)
             | (with_reducible apply go_ret)
             | (with_reducible apply go_skipc)
             | (with_reducible apply go_block)
             | (with_reducible apply go_exit))
           | (with_reducible apply go_kseq)
           | (with_reducible apply go_ksuf)
           | (with_reducible apply go_kseq_ret)
           | (with_reducible apply go_kblock)
           | (with_reducible apply go_kblock_ret)
           | (with_reducible apply go_kblock_exit)
           | (with_reducible apply go_kseq_exit)
           | ((with_reducible apply end_bool); rfl)
          all_goals try (exfalso; omega)
          all_goals first
            | exact (hno (by rw [hbd (by omega)]; simp [*])).symm
            | (refine ⟨by omega, fun q hq hqm => ?_, entails_eq (nx := 32) (k := 0) (ns := []) (ks := [10, 9, 8, 6, 5, 3, 0]) [(3, 3), (2, 2), (1, 1), (0, 0)] rfl (by simp) (by kernel_rfl)⟩
               rcases Nat.lt_succ_iff_lt_or_eq.1 hqm with h' | rfl
               · exact hC q hq h'
               · first | exact hcn (by omega) | (rw [hbd (by omega)]; simp [*]))
            | trace_state
        · have hy : belL l b c a = true := bel_yes fun q hq => hC q hq (by omega)
          rw [hy]
          repeat' first
           | (with_reducible apply go_op)
           | (with_reducible apply go_next)
           | ((with_reducible (show evOp _ _ _ _ _ _)); first
             | ((with_reducible (show evOp _ (.move _) _ _ _ _)) ; first | ((with_reducible apply go_mv_int); rfl; rfl) | ((with_reducible apply go_mv_bool); rfl; rfl) | ((with_reducible apply go_mv_sl); rfl; rfl))
             | ((with_reducible apply go_as))
             | ((with_reducible (show evOp _ (.load _ _) _ _ _ _)) ; first | ((with_reducible apply go_ld_ptr); rfl; rfl; rfl) | ((with_reducible apply go_load_own); rfl; rfl; rfl; rfl))
             | (((with_reducible apply go_fieldAddr_own); rfl; rfl; rfl))
             | ((with_reducible (show evOp _ (.indexAddr _ _ _) _ _ _ _)) ; first | ((with_reducible apply go_index_arr); rfl; rfl; rfl; rfl; omega) | ((with_reducible apply go_index_nat); rfl; rfl; (with_reducible rfl); (intro; rfl); rfl; omega; (intro hlt)))
             | ((with_reducible (show evOp _ (.binOp _ _ _ _ _) _ _ _ _)) ; first | ((with_reducible apply go_cmp); rfl; rfl; rfl; rfl) | ((with_reducible apply go_add); rfl; rfl; rfl; omega))
             | (((with_reducible apply go_len); rfl; rfl))
             | (((with_reducible apply go_pick); rfl; rfl; rfl)))
           | ((with_reducible (show evOps _ _ _ _ _ _)); first
             | (with_reducible apply go_nil)
             | ((with_reducible apply go_run); rfl; rfl)
             | ((with_reducible apply go_pass); rfl; rfl; rfl)
             | (((with_reducible apply go_guard); rfl) <;> (intro h; simp only [h, Bool.not_true, Bool.not_false]; (try with_reducible (refine ⟨rfl, ?_⟩)); try simp only [decide_eq_true_eq, decide_eq_false_iff_not, Bool.not_eq_true', Bool.not_eq_false', Bool.not_true, Bool.not_false] at h; try exact absurd trivial h))
             | ((with_reducible apply go_pre); rfl))
           | ((with_reducible (show evG _ _ _ _ _)); first
             | (with_reducible apply go_seq)
             | (with_reducible apply go_region)
             | ((with_reducible apply go_cond_t); rfl; rfl)
             | (((with_reducible apply go_cond); rfl) <;> (intro h; simp only [h]; try simp only [decide_eq_true_eq, decide_eq_false_iff_not, Bool.not_eq_true', Bool.not_eq_false', Bool.not_true, Bool.not_false] at h; try exact absurd trivial h))
             | ((with_reducible apply go_order); kernel_rfl; rfl)
             | (with_reducible apply go_ret)
             | (with_reducible apply go_skipc)
             | (with_reducible apply go_block)
             | (with_reducible apply go_exit))
           | (with_reducible apply go_kseq)
           | (with_reducible apply go_kblock_exit)
           | (with_reducible apply go_kseq_exit)
           | ((with_reducible apply end_bool); rfl)
           | (with_reducible rfl)
          all_goals first
            | (exfalso; omega)
            | rfl
            | trace_state

  · by_cases g2 : key c < key a
    · have b2 := c_Before c a oc (by assumption)
      rw [show rotT a b c 2 = (c, a, b) from rot_2 (by omega) (by omega)]
      simp only
      have hxy : 0 < crossE c a b := by first | exact hcr | (rw [cross_turn]; exact hcr) | (rw [← cross_turn]; exact hcr)
      have hdt : ∀ p, detE c a b p = detE a b c p := fun p => by first | rfl | exact det_turn _ _ _ _ | exact (det_turn _ _ _ _).symm | (rw [det_turn, det_turn])
      have hbc := bad_corner hxy (by omega) (by omega)
      have o1 := c_rorient a b c (by assumption) (by assumption) (by assumption)
      have ho1 : signE (crossE a b c) = 1 := by rw [cross_turn]; unfold signE; (repeat' split) <;> omega
      rw [ho1] at o1
      refine go_count 2 (fun m => ⟨[(7, .int .i64 ((m + 1 : Nat) : Int)), (6, .int .i64 (fstT 0 2 m)), (5, .op 1 0 0), (3, .op 0 0 0), (0, .sl (l.map encPt))], [(1, ⟨6, true, [encT3 a b c]⟩), (0, ⟨3, true, [encTri ⟨i, j, k⟩]⟩)], 32, 115⟩) (fun m => True)
        (entails_eq (nx := 32) (k := 0) (ns := []) (ks := [7, 6, 5, 3, 0]) [(576, 1), (0, 0)] rfl (by simp) (by subst ea eb ec; kernel_rfl)) trivial ?_
      intro m hm _
      have hm3 : m = 0 ∨ m = 1 ∨ m = 2 := by omega
      rcases hm3 with rfl | rfl | rfl
      · rw [show fstT 0 2 0 = (0 : Int) from rfl]
        repeat' first
           | (with_reducible apply go_op)
           | (with_reducible apply go_next)
           | ((with_reducible (show evOp _ _ _ _ _ _)); first
             | (((with_reducible apply go_mv_int); rfl; rfl))
             | ((with_reducible apply go_as))
             | (((with_reducible apply go_load_own); rfl; rfl; rfl; rfl))
             | (((with_reducible apply go_index_arr); rfl; rfl; rfl; rfl; omega))
             | ((with_reducible (show evOp _ (.binOp _ _ _ _ _) _ _ _ _)) ; first | ((with_reducible apply go_cmp); rfl; rfl; rfl; rfl) | ((with_reducible apply go_add); rfl; rfl; rfl; omega))
             | (((with_reducible apply go_fn_bool); rfl; (exact b1); rfl)))
           | ((with_reducible (show evOps _ _ _ _ _ _)); first
             | (with_reducible apply go_nil)
             | ((with_reducible apply go_pre); rfl)
             | (with_reducible apply go_pre_nil)
             | ((with_reducible apply go_suf); rfl)
             | (with_reducible apply go_suf_nil))
           | ((with_reducible (show evG _ _ _ _ _)); first
             | (with_reducible apply go_seq)
             | (with_reducible apply go_region)
             | ((with_reducible apply go_cond_t); rfl; rfl)
             | (((with_reducible apply go_cond); rfl) <;> (intro h; simp only [h]; try simp only [decide_eq_true_eq, decide_eq_false_iff_not, Bool.not_eq_true', Bool.not_eq_false', Bool.not_true, Bool.not_false] at h; try exact absurd trivial h))
             | ((with_reducible apply go_order); kernel_rfl; rfl)
             | (with_reducible apply go_skipc)
             | (with_reducible apply go_block))
           | (with_reducible apply go_kseq)
           | (with_reducible apply go_ksuf)
           | (with_reducible apply go_kblock)
        all_goals first
          | (exfalso; omega)
          | exact ⟨by omega, trivial, entails_eq (nx := 32) (k := 0) (ns := []) (ks := [7, 6, 5, 3, 0]) [(1, 1), (0, 0)] rfl (by simp) (by kernel_rfl)⟩
          | trace_state
      · rw [show fstT 0 2 1 = (0 : Int) from rfl]
        repeat' first
           | (with_reducible apply go_op)
           | (with_reducible apply go_next)
           | ((with_reducible (show evOp _ _ _ _ _ _)); first
             | (((with_reducible apply go_mv_int); rfl; rfl))
             | ((with_reducible apply go_as))
             | (((with_reducible apply go_load_own); rfl; rfl; rfl; rfl))
             | (((with_reducible apply go_index_arr); rfl; rfl; rfl; rfl; omega))
             | ((with_reducible (show evOp _ (.binOp _ _ _ _ _) _ _ _ _)) ; first | ((with_reducible apply go_cmp); rfl; rfl; rfl; rfl) | ((with_reducible apply go_add); rfl; rfl; rfl; omega))
             | (((with_reducible apply go_fn_bool); rfl; (exact b2); rfl)))
           | ((with_reducible (show evOps _ _ _ _ _ _)); first
             | (with_reducible apply go_nil)
             | ((with_reducible apply go_pre); rfl)
             | (with_reducible apply go_pre_nil)
             | ((with_reducible apply go_suf); rfl)
             | (with_reducible apply go_suf_nil))
           | ((with_reducible (show evG _ _ _ _ _)); first
             | (with_reducible apply go_seq)
             | (with_reducible apply go_region)
             | ((with_reducible apply go_cond_t); rfl; rfl)
             | (((with_reducible apply go_cond); rfl) <;> (intro h; simp only [h]; try simp only [decide_eq_true_eq, decide_eq_false_iff_not, Bool.not_eq_true', Bool.not_eq_false', Bool.not_true, Bool.not_false] at h; try exact absurd trivial h))
             | ((with_reducible apply go_order); kernel_rfl; rfl)
             | (with_reducible apply go_skipc)
             | (with_reducible apply go_block))
           | (with_reducible apply go_kseq)
           | (with_reducible apply go_ksuf)
           | (with_reducible apply go_kblock)
        all_goals first
          | (exfalso; omega)
          | exact ⟨by omega, trivial, entails_eq (nx := 32) (k := 0) (ns := []) (ks := [7, 6, 5, 3, 0]) [(1, 1), (0, 0)] rfl (by simp) (by kernel_rfl)⟩
          | trace_state
      · rw [show fstT 0 2 2 = (2 : Int) from rfl]
        repeat' first
           | (with_reducible apply go_op)
           | (with_reducible apply go_next)
           | ((with_reducible (show evOp _ _ _ _ _ _)); first
             | (((with_reducible apply go_mv_int); rfl; rfl))
             | ((with_reducible apply go_as))
             | (((with_reducible apply go_load_own); rfl; rfl; rfl; rfl))
             | (((with_reducible apply go_index_arr); rfl; rfl; rfl; rfl; omega))
             | ((with_reducible (show evOp _ (.binOp _ _ _ _ _) _ _ _ _)) ; first | ((with_reducible apply go_cmp); rfl; rfl; rfl; rfl) | ((with_reducible apply go_add); rfl; rfl; rfl; omega) | ((with_reducible apply go_rem_pos); rfl; rfl; rfl; omega))
             | (((with_reducible apply go_st_agg); rfl; rfl; rfl; rfl; rfl; rfl; rfl))
             | (((with_reducible apply go_alloc); rfl; rfl; rfl)))
           | ((with_reducible (show evOps _ _ _ _ _ _)); first
             | (with_reducible apply go_nil)
             | (with_reducible apply go_take)
             | (with_reducible apply go_take0))
           | ((with_reducible (show evG _ _ _ _ _)); first
             | (with_reducible apply go_seq)
             | (with_reducible apply go_region)
             | ((with_reducible apply go_cond_f); rfl; rfl)
             | ((with_reducible apply (go_drawL 12 [[5, 6, 7, 8, 9], []])); decide +kernel; rfl)
             | (with_reducible apply go_block)
             | (with_reducible apply go_exit))
           | (with_reducible apply go_klined)
           | (with_reducible apply go_line_drop)
           | (with_reducible apply go_line_drop0)
           | (with_reducible apply go_line)
           | (with_reducible apply go_line_nil)
           | (with_reducible apply go_kln)
           | (with_reducible apply go_again_nil)
           | ((with_reducible apply go_again); rfl; (intro id'))
           | ((with_reducible apply go_kagain); rfl)
           | (with_reducible apply go_kseq)
           | (with_reducible apply go_kblock_exit)
           | (with_reducible apply go_kseq_exit)
        all_goals try (exfalso; omega)
        refine go_count l.length (fun m => ⟨[(10, .int .i64 m), (9, .op 3 0 0), (8, .op 2 0 0), (6, .int .i64 2), (5, .op 1 0 0), (3, .op 0 0 0), (0, .sl (l.map encPt))], [(3, ⟨2, true, [encPt b]⟩), (2, ⟨2, true, [encPt a]⟩), (1, ⟨6, true, [encT3 a b c]⟩), (0, ⟨3, true, [encTri ⟨i, j, k⟩]⟩)], 32, 115⟩) (fun m => ∀ q (hq : q < l.length), q < m → badP c a b l[q] = false)
          (entails_eq (nx := 32) (k := 0) (ns := []) (ks := [10, 9, 8, 6, 5, 3, 0]) [(448, 3), (416, 2), (1, 1), (0, 0)] rfl (by simp) (by kernel_rfl)) (fun j hj h => absurd h (Nat.not_lt_zero _)) ?_
        intro m hm hC
        by_cases hlt : m < l.length
        · have hp : l[m] ∈ l := List.getElem_mem hlt
          have hop := hok _ hp
          have k1 := c_rInCircle a b c l[m] oa ob oc hop (near_l hf ma hp) (near_l hf mb hp) (near_l hf mc hp)
          rw [hs1, Int.mul_one] at k1
          have k2 := c_Before l[m] c hop (by assumption)
          have k3 := c_rorient a b l[m] (by assumption) (by assumption) hop
          have hno : badP c a b l[m] = true → belL l c a b = false := bel_no hp
          have hcn : (m = i ∨ m = j ∨ m = k) → badP c a b l[m] = false := fun h => by
            have : l[m] = a ∨ l[m] = b ∨ l[m] = c := by
              rcases h with rfl | rfl | rfl
              · exact .inl ea
              · exact .inr (.inl eb)
              · exact .inr (.inr ec)
            rcases this with h | h | h <;> rw [h] <;> first | exact hbc.1 | exact hbc.2.1 | exact hbc.2.2
          have hbd : ¬ (m = i ∨ m = j ∨ m = k) → badP c a b l[m] = (decide (0 < signE (detE a b c l[m])) || (decide (signE (detE a b c l[m]) = 0) && (decide (key l[m] < key c) || !decide (signE (crossE a b l[m]) = 1)))) := fun h => by
            rw [bad_ref hxy (fun e => h ?_) (fun e => h ?_), hdt]
            · have := (List.getElem_inj hn).1 (e.trans (by assumption : l[i] = a).symm); omega
            · have := (List.getElem_inj hn).1 (e.trans (by assumption : l[j] = b).symm); omega
          generalize signE (detE a b c l[m]) = u at *
          generalize signE (crossE a b l[m]) = w at *
          generalize decide (key l[m] < key c) = v at *
          repeat' first
           | (with_reducible apply go_op)
           | (with_reducible apply go_next)
           | ((with_reducible (show evOp _ _ _ _ _ _)); first
             | ((with_reducible (show evOp _ (.move _) _ _ _ _)) ; first | ((with_reducible apply go_mv_int); rfl; rfl) | ((with_reducible apply go_mv_bool); rfl; rfl) | ((with_reducible apply go_mv_sl); rfl; rfl))
             | ((with_reducible apply go_as))
             | ((with_reducible (show evOp _ (.load _ _) _ _ _ _)) ; first | ((with_reducible apply go_ld_ptr); rfl; rfl; rfl) | ((with_reducible apply go_ld_agg); rfl; rfl; rfl; rfl) | ((with_reducible apply go_load_own); rfl; rfl; rfl; rfl))
             | (((with_reducible apply go_fieldAddr_own); rfl; rfl; rfl))
             | ((with_reducible (show evOp _ (.indexAddr _ _ _) _ _ _ _)) ; first | ((with_reducible apply go_index_arr); rfl; rfl; rfl; rfl; omega) | ((with_reducible apply go_index_nat); rfl; rfl; (with_reducible rfl); (intro; rfl); rfl; omega; (intro hlt)))
             | ((with_reducible (show evOp _ (.binOp _ _ _ _ _) _ _ _ _)) ; first | ((with_reducible apply go_cmp); rfl; rfl; rfl; rfl) | ((with_reducible apply go_add); rfl; rfl; rfl; omega))
             | ((with_reducible (show evOp _ (.call _) _ _ _ _)) ; first | ((with_reducible apply go_len); rfl; rfl) | ((with_reducible apply go_fn_int); rfl; (exact k1); rfl) | ((with_reducible apply go_fn_bool); rfl; (exact k2); rfl) | ((with_reducible apply go_fn_int); rfl; (exact k3); rfl) | ((with_reducible apply go_fn_int); rfl; (exact o1); rfl))
             | (((with_reducible apply go_pick); rfl; rfl; rfl)))
           | ((with_reducible (show evOps _ _ _ _ _ _)); first
             | (with_reducible apply go_nil)
             | ((with_reducible apply go_run); rfl; rfl)
             | ((with_reducible apply go_pass); rfl; rfl; rfl)
             | ((with_reducible apply go_skip); rfl; rfl)
             | (((with_reducible apply go_guard); rfl) <;> (intro h; simp only [h, Bool.not_true, Bool.not_false]; (try with_reducible (refine ⟨rfl, ?_⟩)); try simp only [decide_eq_true_eq, decide_eq_false_iff_not, Bool.not_eq_true', Bool.not_eq_false', Bool.not_true, Bool.not_false] at h; try exact absurd trivial h))
             | ((with_reducible apply go_pre); rfl)
             | (with_reducible apply go_pre_nil)
             | ((with_reducible apply go_suf); rfl)
             | (with_reducible apply go_suf_nil))
           | ((with_reducible (show evG _ _ _ _ _)); first
             | (with_reducible apply go_seq)
             | (with_reducible apply go_region)
             | ((with_reducible apply go_cond_t); rfl; rfl)
             | ((with_reducible apply go_cond_f); rfl; rfl)
             | (((with_reducible apply go_cond); rfl) <;> (intro h; simp only [h]; try simp only [decide_eq_true_eq, decide_eq_false_iff_not, Bool.not_eq_true', Bool.not_eq_false', Bool.not_true, Bool.not_false] at h; try exact absurd trivial h))
             | ((with_reducible apply go_order); kernel_rfl; rfl)
             | (with_reducible apply go_ret)
             | (with_reducible apply go_skipc)
             | (with_reducible apply go_block)
             | (with_reducible apply go_exit))
           | (with_reducible apply go_kseq)
           | (with_reducible apply go_ksuf)
           | (with_reducible apply go_kseq_ret)
           | (with_reducible apply go_kblock)
           | (with_reducible apply go_kblock_ret)
           | (with_reducible apply go_kblock_exit)
           | (with_reducible apply go_kseq_exit)
           | ((with_reducible apply end_bool); rfl)
          all_goals try (exfalso; omega)
          all_goals first
            | exact (hno (by rw [hbd (by omega)]; simp [*])).symm
            | (refine ⟨by omega, fun q hq hqm => ?_, entails_eq (nx := 32) (k := 0) (ns := []) (ks := [10, 9, 8, 6, 5, 3, 0]) [(3, 3), (2, 2), (1, 1), (0, 0)] rfl (by simp) (by kernel_rfl)⟩
               rcases Nat.lt_succ_iff_lt_or_eq.1 hqm with h' | rfl
               · exact hC q hq h'
               · first | exact hcn (by omega) | (rw [hbd (by omega)]; simp [*]))
            | trace_state
        · have hy : belL l c a b = true := bel_yes fun q hq => hC q hq (by omega)
          rw [hy]
          repeat' first
           | (with_reducible apply go_op)
           | (with_reducible apply go_next)
           | ((with_reducible (show evOp _ _ _ _ _ _)); first
             | ((with_reducible (show evOp _ (.move _) _ _ _ _)) ; first | ((with_reducible apply go_mv_int); rfl; rfl) | ((with_reducible apply go_mv_bool); rfl; rfl) | ((with_reducible apply go_mv_sl); rfl; rfl))
             | ((with_reducible apply go_as))
             | ((with_reducible (show evOp _ (.load _ _) _ _ _ _)) ; first | ((with_reducible apply go_ld_ptr); rfl; rfl; rfl) | ((with_reducible apply go_load_own); rfl; rfl; rfl; rfl))
             | (((with_reducible apply go_fieldAddr_own); rfl; rfl; rfl))
             | ((with_reducible (show evOp _ (.indexAddr _ _ _) _ _ _ _)) ; first | ((with_reducible apply go_index_arr); rfl; rfl; rfl; rfl; omega) | ((with_reducible apply go_index_nat); rfl; rfl; (with_reducible rfl); (intro; rfl); rfl; omega; (intro hlt)))
             | ((with_reducible (show evOp _ (.binOp _ _ _ _ _) _ _ _ _)) ; first | ((with_reducible apply go_cmp); rfl; rfl; rfl; rfl) | ((with_reducible apply go_add); rfl; rfl; rfl; omega))
             | (((with_reducible apply go_len); rfl; rfl))
             | (((with_reducible apply go_pick); rfl; rfl; rfl)))
           | ((with_reducible (show evOps _ _ _ _ _ _)); first
             | (with_reducible apply go_nil)
             | ((with_reducible apply go_run); rfl; rfl)
             | ((with_reducible apply go_pass); rfl; rfl; rfl)
             | (((with_reducible apply go_guard); rfl) <;> (intro h; simp only [h, Bool.not_true, Bool.not_false]; (try with_reducible (refine ⟨rfl, ?_⟩)); try simp only [decide_eq_true_eq, decide_eq_false_iff_not, Bool.not_eq_true', Bool.not_eq_false', Bool.not_true, Bool.not_false] at h; try exact absurd trivial h))
             | ((with_reducible apply go_pre); rfl))
           | ((with_reducible (show evG _ _ _ _ _)); first
             | (with_reducible apply go_seq)
             | (with_reducible apply go_region)
             | ((with_reducible apply go_cond_t); rfl; rfl)
             | (((with_reducible apply go_cond); rfl) <;> (intro h; simp only [h]; try simp only [decide_eq_true_eq, decide_eq_false_iff_not, Bool.not_eq_true', Bool.not_eq_false', Bool.not_true, Bool.not_false] at h; try exact absurd trivial h))
             | ((with_reducible apply go_order); kernel_rfl; rfl)
             | (with_reducible apply go_ret)
             | (with_reducible apply go_skipc)
             | (with_reducible apply go_block)
             | (with_reducible apply go_exit))
           | (with_reducible apply go_kseq)
           | (with_reducible apply go_kblock_exit)
           | (with_reducible apply go_kseq_exit)
           | ((with_reducible apply end_bool); rfl)
           | (with_reducible rfl)
          all_goals first
            | (exfalso; omega)
            | rfl
            | trace_state

    · have b2 := c_Before c a oc (by assumption)
      rw [show rotT a b c 2 = (a, b, c) from rot_0 (by omega) (by omega)]
      simp only
      have hxy : 0 < crossE a b c := by first | exact hcr | (rw [cross_turn]; exact hcr) | (rw [← cross_turn]; exact hcr)
      have hdt : ∀ p, detE a b c p = detE a b c p := fun p => by first | rfl | exact det_turn _ _ _ _ | exact (det_turn _ _ _ _).symm | (rw [det_turn, det_turn])
      have hbc := bad_corner hxy (by omega) (by omega)
      have o1 := c_rorient b c a (by assumption) (by assumption) (by assumption)
      have ho1 : signE (crossE b c a) = 1 := by rw [cross_turn]; unfold signE; (repeat' split) <;> omega
      rw [ho1] at o1
      refine go_count 2 (fun m => ⟨[(7, .int .i64 ((m + 1 : Nat) : Int)), (6, .int .i64 (fstT 0 0 m)), (5, .op 1 0 0), (3, .op 0 0 0), (0, .sl (l.map encPt))], [(1, ⟨6, true, [encT3 a b c]⟩), (0, ⟨3, true, [encTri ⟨i, j, k⟩]⟩)], 32, 115⟩) (fun m => True)
        (entails_eq (nx := 32) (k := 0) (ns := []) (ks := [7, 6, 5, 3, 0]) [(576, 1), (0, 0)] rfl (by simp) (by subst ea eb ec; kernel_rfl)) trivial ?_
      intro m hm _
      have hm3 : m = 0 ∨ m = 1 ∨ m = 2 := by omega
      rcases hm3 with rfl | rfl | rfl
      · rw [show fstT 0 0 0 = (0 : Int) from rfl]
        repeat' first
           | (with_reducible apply go_op)
           | (with_reducible apply go_next)
           | ((with_reducible (show evOp _ _ _ _ _ _)); first
             | (((with_reducible apply go_mv_int); rfl; rfl))
             | ((with_reducible apply go_as))
             | (((with_reducible apply go_load_own); rfl; rfl; rfl; rfl))
             | (((with_reducible apply go_index_arr); rfl; rfl; rfl; rfl; omega))
             | ((with_reducible (show evOp _ (.binOp _ _ _ _ _) _ _ _ _)) ; first | ((with_reducible apply go_cmp); rfl; rfl; rfl; rfl) | ((with_reducible apply go_add); rfl; rfl; rfl; omega))
             | (((with_reducible apply go_fn_bool); rfl; (exact b1); rfl)))
           | ((with_reducible (show evOps _ _ _ _ _ _)); first
             | (with_reducible apply go_nil)
             | ((with_reducible apply go_pre); rfl)
             | (with_reducible apply go_pre_nil)
             | ((with_reducible apply go_suf); rfl)
             | (with_reducible apply go_suf_nil))
           | ((with_reducible (show evG _ _ _ _ _)); first
             | (with_reducible apply go_seq)
             | (with_reducible apply go_region)
             | ((with_reducible apply go_cond_t); rfl; rfl)
             | (((with_reducible apply go_cond); rfl) <;> (intro h; simp only [h]; try simp only [decide_eq_true_eq, decide_eq_false_iff_not, Bool.not_eq_true', Bool.not_eq_false', Bool.not_true, Bool.not_false] at h; try exact absurd trivial h))
             | ((with_reducible apply go_order); kernel_rfl; rfl)
             | (with_reducible apply go_skipc)
             | (with_reducible apply go_block))
           | (with_reducible apply go_kseq)
           | (with_reducible apply go_ksuf)
           | (with_reducible apply go_kblock)
        all_goals first
          | (exfalso; omega)
          | exact ⟨by omega, trivial, entails_eq (nx := 32) (k := 0) (ns := []) (ks := [7, 6, 5, 3, 0]) [(1, 1), (0, 0)] rfl (by simp) (by kernel_rfl)⟩
          | trace_state
      · rw [show fstT 0 0 1 = (0 : Int) from rfl]
        repeat' first
           | (with_reducible apply go_op)
           | (with_reducible apply go_next)
           | ((with_reducible (show evOp _ _ _ _ _ _)); first
             | (((with_reducible apply go_mv_int); rfl; rfl))
             | ((with_reducible apply go_as))
             | (((with_reducible apply go_load_own); rfl; rfl; rfl; rfl))
             | (((with_reducible apply go_index_arr); rfl; rfl; rfl; rfl; omega))
             | ((with_reducible (show evOp _ (.binOp _ _ _ _ _) _ _ _ _)) ; first | ((with_reducible apply go_cmp); rfl; rfl; rfl; rfl) | ((with_reducible apply go_add); rfl; rfl; rfl; omega))
             | (((with_reducible apply go_fn_bool); rfl; (exact b2); rfl)))
           | ((with_reducible (show evOps _ _ _ _ _ _)); first
             | (with_reducible apply go_nil)
             | ((with_reducible apply go_pre); rfl)
             | (with_reducible apply go_pre_nil)
             | ((with_reducible apply go_suf); rfl)
             | (with_reducible apply go_suf_nil))
           | ((with_reducible (show evG _ _ _ _ _)); first
             | (with_reducible apply go_seq)
             | (with_reducible apply go_region)
             | ((with_reducible apply go_cond_t); rfl; rfl)
             | (((with_reducible apply go_cond); rfl) <;> (intro h; simp only [h]; try simp only [decide_eq_true_eq, decide_eq_false_iff_not, Bool.not_eq_true', Bool.not_eq_false', Bool.not_true, Bool.not_false] at h; try exact absurd trivial h))
             | ((with_reducible apply go_order); kernel_rfl; rfl)
             | (with_reducible apply go_skipc)
             | (with_reducible apply go_block))
           | (with_reducible apply go_kseq)
           | (with_reducible apply go_ksuf)
           | (with_reducible apply go_kblock)
        all_goals first
          | (exfalso; omega)
          | exact ⟨by omega, trivial, entails_eq (nx := 32) (k := 0) (ns := []) (ks := [7, 6, 5, 3, 0]) [(1, 1), (0, 0)] rfl (by simp) (by kernel_rfl)⟩
          | trace_state
      · rw [show fstT 0 0 2 = (0 : Int) from rfl]
        repeat' first
           | (with_reducible apply go_op)
           | (with_reducible apply go_next)
           | ((with_reducible (show evOp _ _ _ _ _ _)); first
             | (((with_reducible apply go_mv_int); rfl; rfl))
             | ((with_reducible apply go_as))
             | (((with_reducible apply go_load_own); rfl; rfl; rfl; rfl))
             | (((with_reducible apply go_index_arr); rfl; rfl; rfl; rfl; omega))
             | ((with_reducible (show evOp _ (.binOp _ _ _ _ _) _ _ _ _)) ; first | ((with_reducible apply go_cmp); rfl; rfl; rfl; rfl) | ((with_reducible apply go_add); rfl; rfl; rfl; omega) | ((with_reducible apply go_rem_pos); rfl; rfl; rfl; omega))
             | (((with_reducible apply go_st_agg); rfl; rfl; rfl; rfl; rfl; rfl; rfl))
             | (((with_reducible apply go_alloc); rfl; rfl; rfl)))
           | ((with_reducible (show evOps _ _ _ _ _ _)); first
             | (with_reducible apply go_nil)
             | (with_reducible apply go_take)
             | (with_reducible apply go_take0))
           | ((with_reducible (show evG _ _ _ _ _)); first
             | (with_reducible apply go_seq)
             | (with_reducible apply go_region)
             | ((with_reducible apply go_cond_f); rfl; rfl)
             | ((with_reducible apply (go_drawL 12 [[5, 6, 7, 8, 9], []])); decide +kernel; rfl)
             | (with_reducible apply go_block)
             | (with_reducible apply go_exit))
           | (with_reducible apply go_klined)
           | (with_reducible apply go_line_drop)
           | (with_reducible apply go_line_drop0)
           | (with_reducible apply go_line)
           | (with_reducible apply go_line_nil)
           | (with_reducible apply go_kln)
           | (with_reducible apply go_again_nil)
           | ((with_reducible apply go_again); rfl; (intro id'))
           | ((with_reducible apply go_kagain); rfl)
           | (with_reducible apply go_kseq)
           | (with_reducible apply go_kblock_exit)
           | (with_reducible apply go_kseq_exit)
        all_goals try (exfalso; omega)
        refine go_count l.length (fun m => ⟨[(10, .int .i64 m), (9, .op 3 0 0), (8, .op 2 0 0), (6, .int .i64 0), (5, .op 1 0 0), (3, .op 0 0 0), (0, .sl (l.map encPt))], [(3, ⟨2, true, [encPt c]⟩), (2, ⟨2, true, [encPt b]⟩), (1, ⟨6, true, [encT3 a b c]⟩), (0, ⟨3, true, [encTri ⟨i, j, k⟩]⟩)], 32, 115⟩) (fun m => ∀ q (hq : q < l.length), q < m → badP a b c l[q] = false)
          (entails_eq (nx := 32) (k := 0) (ns := []) (ks := [10, 9, 8, 6, 5, 3, 0]) [(448, 3), (416, 2), (1, 1), (0, 0)] rfl (by simp) (by kernel_rfl)) (fun j hj h => absurd h (Nat.not_lt_zero _)) ?_
        intro m hm hC
        by_cases hlt : m < l.length
        · have hp : l[m] ∈ l := List.getElem_mem hlt
          have hop := hok _ hp
          have k1 := c_rInCircle a b c l[m] oa ob oc hop (near_l hf ma hp) (near_l hf mb hp) (near_l hf mc hp)
          rw [hs1, Int.mul_one] at k1
          have k2 := c_Before l[m] a hop (by assumption)
          have k3 := c_rorient b c l[m] (by assumption) (by assumption) hop
          have hno : badP a b c l[m] = true → belL l a b c = false := bel_no hp
          have hcn : (m = i ∨ m = j ∨ m = k) → badP a b c l[m] = false := fun h => by
            have : l[m] = a ∨ l[m] = b ∨ l[m] = c := by
              rcases h with rfl | rfl | rfl
              · exact .inl ea
              · exact .inr (.inl eb)
              · exact .inr (.inr ec)
            rcases this with h | h | h <;> rw [h] <;> first | exact hbc.1 | exact hbc.2.1 | exact hbc.2.2
          have hbd : ¬ (m = i ∨ m = j ∨ m = k) → badP a b c l[m] = (decide (0 < signE (detE a b c l[m])) || (decide (signE (detE a b c l[m]) = 0) && (decide (key l[m] < key a) || !decide (signE (crossE b c l[m]) = 1)))) := fun h => by
            rw [bad_ref hxy (fun e => h ?_) (fun e => h ?_), hdt]
            · have := (List.getElem_inj hn).1 (e.trans (by assumption : l[j] = b).symm); omega
            · have := (List.getElem_inj hn).1 (e.trans (by assumption : l[k] = c).symm); omega
          generalize signE (detE a b c l[m]) = u at *
          generalize signE (crossE b c l[m]) = w at *
          generalize decide (key l[m] < key a) = v at *
          repeat' first
           | (with_reducible apply go_op)
           | (with_reducible apply go_next)
           | ((with_reducible (show evOp _ _ _ _ _ _)); first
             | ((with_reducible (show evOp _ (.move _) _ _ _ _)) ; first | ((with_reducible apply go_mv_int); rfl; rfl) | ((with_reducible apply go_mv_bool); rfl; rfl) | ((with_reducible apply go_mv_sl); rfl; rfl))
             | ((with_reducible apply go_as))
             | ((with_reducible (show evOp _ (.load _ _) _ _ _ _)) ; first | ((with_reducible apply go_ld_ptr); rfl; rfl; rfl) | ((with_reducible apply go_ld_agg); rfl; rfl; rfl; rfl) | ((with_reducible apply go_load_own); rfl; rfl; rfl; rfl))
             | (((with_reducible apply go_fieldAddr_own); rfl; rfl; rfl))
             | ((with_reducible (show evOp _ (.indexAddr _ _ _) _ _ _ _)) ; first | ((with_reducible apply go_index_arr); rfl; rfl; rfl; rfl; omega) | ((with_reducible apply go_index_nat); rfl; rfl; (with_reducible rfl); (intro; rfl); rfl; omega; (intro hlt)))
             | ((with_reducible (show evOp _ (.binOp _ _ _ _ _) _ _ _ _)) ; first | ((with_reducible apply go_cmp); rfl; rfl; rfl; rfl) | ((with_reducible apply go_add); rfl; rfl; rfl; omega))
             | ((with_reducible (show evOp _ (.call _) _ _ _ _)) ; first | ((with_reducible apply go_len); rfl; rfl) | ((with_reducible apply go_fn_int); rfl; (exact k1); rfl) | ((with_reducible apply go_fn_bool); rfl; (exact k2); rfl) | ((with_reducible apply go_fn_int); rfl; (exact k3); rfl) | ((with_reducible apply go_fn_int); rfl; (exact o1); rfl))
             | (((with_reducible apply go_pick); rfl; rfl; rfl)))
           | ((with_reducible (show evOps _ _ _ _ _ _)); first
             | (with_reducible apply go_nil)
             | ((with_reducible apply go_run); rfl; rfl)
             | ((with_reducible apply go_pass); rfl; rfl; rfl)
             | ((with_reducible apply go_skip); rfl; rfl)
             | (((with_reducible apply go_guard); rfl) <;> (intro h; simp only [h, Bool.not_true, Bool.not_false]; (try with_reducible (refine ⟨rfl, ?_⟩)); try simp only [decide_eq_true_eq, decide_eq_false_iff_not, Bool.not_eq_true', Bool.not_eq_false', Bool.not_true, Bool.not_false] at h; try exact absurd trivial h))
             | ((with_reducible apply go_pre); rfl)
             | (with_reducible apply go_pre_nil)
             | ((with_reducible apply go_suf); rfl)
             | (with_reducible apply go_suf_nil))
           | ((with_reducible (show evG _ _ _ _ _)); first
             | (with_reducible apply go_seq)
             | (with_reducible apply go_region)
             | ((with_reducible apply go_cond_t); rfl; rfl)
             | ((with_reducible apply go_cond_f); rfl; rfl)
             | (((with_reducible apply go_cond); rfl) <;> (intro h; simp only [h]; try simp only [decide_eq_true_eq, decide_eq_false_iff_not, Bool.not_eq_true', Bool.not_eq_false', Bool.not_true, Bool.not_false] at h; try exact absurd trivial h))
             | ((with_reducible apply go_order); kernel_rfl; rfl)
             | (with_reducible apply go_ret)
             | (with_reducible apply go_skipc)
             | (with_reducible apply go_block)
             | (with_reducible apply go_exit))
           | (with_reducible apply go_kseq)
           | (with_reducible apply go_ksuf)
           | (with_reducible apply go_kseq_ret)
           | (with_reducible apply go_kblock)
           | (with_reducible apply go_kblock_ret)
           | (with_reducible apply go_kblock_exit)
           | (with_reducible apply go_kseq_exit)
           | ((with_reducible apply end_bool); rfl)
          all_goals try (exfalso; omega)
          all_goals first
            | exact (hno (by rw [hbd (by omega)]; simp [*])).symm
            | (refine ⟨by omega, fun q hq hqm => ?_, entails_eq (nx := 32) (k := 0) (ns := []) (ks := [10, 9, 8, 6, 5, 3, 0]) [(3, 3), (2, 2), (1, 1), (0, 0)] rfl (by simp) (by kernel_rfl)⟩
               rcases Nat.lt_succ_iff_lt_or_eq.1 hqm with h' | rfl
               · exact hC q hq h'
               · first | exact hcn (by omega) | (rw [hbd (by omega)]; simp [*]))
            | trace_state
        · have hy : belL l a b c = true := bel_yes fun q hq => hC q hq (by omega)
          rw [hy]
          repeat' first
           | (with_reducible apply go_op)
           | (with_reducible apply go_next)
           | ((with_reducible (show evOp _ _ _ _ _ _)); first
             | ((with_reducible (show evOp _ (.move _) _ _ _ _)) ; first | ((with_reducible apply go_mv_int); rfl; rfl) | ((with_reducible apply go_mv_bool); rfl; rfl) | ((with_reducible apply go_mv_sl); rfl; rfl))
             | ((with_reducible apply go_as))
             | ((with_reducible (show evOp _ (.load _ _) _ _ _ _)) ; first | ((with_reducible apply go_ld_ptr); rfl; rfl; rfl) | ((with_reducible apply go_load_own); rfl; rfl; rfl; rfl))
             | (((with_reducible apply go_fieldAddr_own); rfl; rfl; rfl))
             | ((with_reducible (show evOp _ (.indexAddr _ _ _) _ _ _ _)) ; first | ((with_reducible apply go_index_arr); rfl; rfl; rfl; rfl; omega) | ((with_reducible apply go_index_nat); rfl; rfl; (with_reducible rfl); (intro; rfl); rfl; omega; (intro hlt)))
             | ((with_reducible (show evOp _ (.binOp _ _ _ _ _) _ _ _ _)) ; first | ((with_reducible apply go_cmp); rfl; rfl; rfl; rfl) | ((with_reducible apply go_add); rfl; rfl; rfl; omega))
             | (((with_reducible apply go_len); rfl; rfl))
             | (((with_reducible apply go_pick); rfl; rfl; rfl)))
           | ((with_reducible (show evOps _ _ _ _ _ _)); first
             | (with_reducible apply go_nil)
             | ((with_reducible apply go_run); rfl; rfl)
             | ((with_reducible apply go_pass); rfl; rfl; rfl)
             | (((with_reducible apply go_guard); rfl) <;> (intro h; simp only [h, Bool.not_true, Bool.not_false]; (try with_reducible (refine ⟨rfl, ?_⟩)); try simp only [decide_eq_true_eq, decide_eq_false_iff_not, Bool.not_eq_true', Bool.not_eq_false', Bool.not_true, Bool.not_false] at h; try exact absurd trivial h))
             | ((with_reducible apply go_pre); rfl))
           | ((with_reducible (show evG _ _ _ _ _)); first
             | (with_reducible apply go_seq)
             | (with_reducible apply go_region)
             | ((with_reducible apply go_cond_t); rfl; rfl)
             | (((with_reducible apply go_cond); rfl) <;> (intro h; simp only [h]; try simp only [decide_eq_true_eq, decide_eq_false_iff_not, Bool.not_eq_true', Bool.not_eq_false', Bool.not_true, Bool.not_false] at h; try exact absurd trivial h))
             | ((with_reducible apply go_order); kernel_rfl; rfl)
             | (with_reducible apply go_ret)
             | (with_reducible apply go_skipc)
             | (with_reducible apply go_block)
             | (with_reducible apply go_exit))
           | (with_reducible apply go_kseq)
           | (with_reducible apply go_kblock_exit)
           | (with_reducible apply go_kseq_exit)
           | ((with_reducible apply end_bool); rfl)
           | (with_reducible rfl)
          all_goals first
            | (exfalso; omega)
            | rfl
            | trace_state

end Go.Pv.Geo

open Go Go.Proofs Go.Pv
set_option maxHeartbeats 8000000
set_option maxRecDepth 100000
set_option linter.unusedSimpArgs false
set_option linter.unusedVariables false
namespace Go.Pv.Geo
theorem refB_step (l : List Pt) (a b q : Nat) (X : List BT) : X ++ refB l a b (q + 1) = (X ++ refB l a b q) ++ R3 l a b (a + 1 + q) := by rw [List.append_assoc]; rfl
theorem refA_step (l : List Pt) (a m : Nat) (X : List BT) : X ++ refA l a (m + 1) = (X ++ refA l a m) ++ refB l a (a + 1 + m) (l.length - (a + 1)) := by rw [List.append_assoc]; rfl
theorem refL_step (l : List Pt) (a : Nat) : refL l (a + 1) = refL l a ++ refA l a (l.length - (a + 1)) := rfl
theorem sign_gt0 {n : Int} : 0 < signE n ↔ 0 < n := by unfold signE; (repeat' split) <;> omega
theorem c_rTriangulate (l : List Pt) (hl : l.length ≤ 9) (hok : ∀ p ∈ l, ptOK p = true) (hf : farL l = false) (hn : l.Nodup) : Contract Try.prog 39 [.sl (l.map encPt)] (.ret (.fr 3 ((refL l l.length).map encB))) := by
  refine contract_of mix Try.func39 rfl rfl (by rw [Try.ntmps39]; exact Nat.le_of_ble_eq_true rfl) ?_; rw [Try.results39, Try.ntmps39]; simp only [argsE, Nat.reduceAdd]
  repeat' first
           | (with_reducible apply go_op)
           | (with_reducible apply go_next)
           | ((with_reducible (show evOp _ _ _ _ _ _)); first
             | ((with_reducible (show evOp _ (.move _) _ _ _ _)) ; first | ((with_reducible apply go_mv_int); rfl; rfl) | ((with_reducible apply go_mv_nilsl); rfl; rfl))
             | ((with_reducible apply go_as)))
           | ((with_reducible (show evOps _ _ _ _ _ _)); first
             | (with_reducible apply go_nil))
           | ((with_reducible (show evG _ _ _ _ _)); first
             | (with_reducible apply go_seq)
             | (with_reducible apply go_region)
             | (with_reducible apply go_block))
           | (with_reducible apply go_kseq)
  all_goals try (exfalso; omega)
  refine go_count l.length (fun a => ⟨[(3, .os 1 0 (refL l a).length), (4, .int .i64 a), (0, .sl (l.map encPt))], [(1, ⟨3, true, (refL l a).map encB⟩)], 32, 58⟩) (fun a => (refL l a).length ≤ a * 81)
    (entails_eq (nx := 32) (k := 3) (ns := [(3, 1)]) (ks := [4, 0]) [] rfl (by intro p hp; obtain rfl : p = (3, 1) := (by simpa using hp); kernel_rfl) (by kernel_rfl)) (by simp [refL, accF]) ?_
  intro a ha hCa
  by_cases hla : a < l.length
  rotate_left
  · have e : a = l.length := by omega
    subst e
    generalize refL l l.length = L at *
    repeat' first
           | (with_reducible apply go_op)
           | (with_reducible apply go_next)
           | ((with_reducible (show evOp _ _ _ _ _ _)); first
             | ((with_reducible (show evOp _ (.move _) _ _ _ _)) ; first | ((with_reducible apply go_mv_int); rfl; rfl) | ((with_reducible apply go_mv_sl); rfl; rfl) | ((with_reducible apply go_mv_os); rfl; rfl))
             | ((with_reducible apply go_as))
             | ((with_reducible (show evOp _ (.binOp _ _ _ _ _) _ _ _ _)) ; first | ((with_reducible apply go_cmp); rfl; rfl; rfl; rfl) | ((with_reducible apply go_add); rfl; rfl; rfl; omega))
             | (((with_reducible apply go_len); rfl; rfl)))
           | ((with_reducible (show evOps _ _ _ _ _ _)); first
             | (with_reducible apply go_nil))
           | ((with_reducible (show evG _ _ _ _ _)); first
             | (with_reducible apply go_seq)
             | (with_reducible apply go_region)
             | (((with_reducible apply go_cond); rfl) <;> (intro h; simp only [h]; try simp only [decide_eq_true_eq, decide_eq_false_iff_not, Bool.not_eq_true', Bool.not_eq_false', Bool.not_true, Bool.not_false] at h; try exact absurd trivial h))
             | (with_reducible apply go_ret)
             | (with_reducible apply go_skipc)
             | (with_reducible apply go_block)
             | (with_reducible apply go_exit))
           | (with_reducible apply go_kseq)
           | (with_reducible apply go_kblock_exit)
           | (with_reducible apply go_kseq_exit)
    all_goals try (exfalso; omega)
    exact end_frn (l := L) rfl rfl rfl rfl
  have h9a : a * 81 ≤ 9 * 81 := Nat.mul_le_mul_right _ (by omega)
  rw [refL_step]
  generalize refL l a = X at *
  repeat' first
           | (with_reducible apply go_op)
           | (with_reducible apply go_next)
           | ((with_reducible (show evOp _ _ _ _ _ _)); first
             | ((with_reducible (show evOp _ (.move _) _ _ _ _)) ; first | ((with_reducible apply go_mv_int); rfl; rfl) | ((with_reducible apply go_mv_sl); rfl; rfl) | ((with_reducible apply go_mv_os); rfl; rfl))
             | ((with_reducible apply go_as))
             | ((with_reducible (show evOp _ (.binOp _ _ _ _ _) _ _ _ _)) ; first | ((with_reducible apply go_cmp); rfl; rfl; rfl; rfl) | ((with_reducible apply go_add); rfl; rfl; rfl; omega))
             | (((with_reducible apply go_len); rfl; rfl)))
           | ((with_reducible (show evOps _ _ _ _ _ _)); first
             | (with_reducible apply go_nil))
           | ((with_reducible (show evG _ _ _ _ _)); first
             | (with_reducible apply go_seq)
             | (with_reducible apply go_region)
             | (((with_reducible apply go_cond); rfl) <;> (intro h; simp only [h]; try simp only [decide_eq_true_eq, decide_eq_false_iff_not, Bool.not_eq_true', Bool.not_eq_false', Bool.not_true, Bool.not_false] at h; try exact absurd trivial h))
             | (with_reducible apply go_ret)
             | (with_reducible apply go_skipc)
             | (with_reducible apply go_block)
             | (with_reducible apply go_exit))
           | (with_reducible apply go_kseq)
           | (with_reducible apply go_kblock_exit)
           | (with_reducible apply go_kseq_exit)
  all_goals try (exfalso; omega)
  refine go_count (l.length - (a + 1)) (fun m => ⟨[(3, .os 1 0 (X ++ refA l a m).length), (5, .int .i64 ((a + 1 + m : Nat) : Int)), (4, .int .i64 a), (0, .sl (l.map encPt))], [(1, ⟨3, true, (X ++ refA l a m).map encB⟩)], 32, 58⟩) (fun m => (X ++ refA l a m).length ≤ a * 81 + m * 9)
    (entails_eq (nx := 32) (k := 0) (ns := []) (ks := [3, 5, 4, 0]) [(1, 1)] rfl (by simp) (by rw [show X ++ refA l a 0 = X from List.append_nil _]; kernel_rfl)) (by rw [show X ++ refA l a 0 = X from List.append_nil _]; omega) ?_
  intro m hm hCm
  by_cases hlm : m < l.length - (a + 1)
  rotate_left
  · have e : m = l.length - (a + 1) := by omega
    rw [← e]
    generalize X ++ refA l a m = Y at *
    repeat' first
           | (with_reducible apply go_op)
           | (with_reducible apply go_next)
           | ((with_reducible (show evOp _ _ _ _ _ _)); first
             | ((with_reducible (show evOp _ (.move _) _ _ _ _)) ; first | ((with_reducible apply go_mv_int); rfl; rfl) | ((with_reducible apply go_mv_sl); rfl; rfl))
             | ((with_reducible apply go_as))
             | ((with_reducible (show evOp _ (.binOp _ _ _ _ _) _ _ _ _)) ; first | ((with_reducible apply go_cmp); rfl; rfl; rfl; rfl) | ((with_reducible apply go_add); rfl; rfl; rfl; omega))
             | (((with_reducible apply go_len); rfl; rfl)))
           | ((with_reducible (show evOps _ _ _ _ _ _)); first
             | (with_reducible apply go_nil))
           | ((with_reducible (show evG _ _ _ _ _)); first
             | (with_reducible apply go_seq)
             | (with_reducible apply go_region)
             | (((with_reducible apply go_cond); rfl) <;> (intro h; simp only [h]; try simp only [decide_eq_true_eq, decide_eq_false_iff_not, Bool.not_eq_true', Bool.not_eq_false', Bool.not_true, Bool.not_false] at h; try exact absurd trivial h))
             | (with_reducible apply go_skipc)
             | (with_reducible apply go_block)
             | (with_reducible apply go_exit))
           | (with_reducible apply go_kseq)
           | (with_reducible apply go_kblock)
           | (with_reducible apply go_kblock_exit)
           | (with_reducible apply go_kseq_exit)
    all_goals try (exfalso; omega)
    exact ⟨by omega, by omega, entails_eq (nx := 32) (k := 0) (ns := []) (ks := [3, 4, 0]) [(1, 1)] rfl (by simp) (by kernel_rfl)⟩
  rw [refA_step]
  generalize X ++ refA l a m = Y at *
  clear hCa
  obtain ⟨b, hb⟩ : ∃ b, b = a + 1 + m := ⟨_, rfl⟩
  rw [← hb]
  have hbl : b < l.length := by omega
  repeat' first
           | (with_reducible apply go_op)
           | (with_reducible apply go_next)
           | ((with_reducible (show evOp _ _ _ _ _ _)); first
             | ((with_reducible (show evOp _ (.move _) _ _ _ _)) ; first | ((with_reducible apply go_mv_int); rfl; rfl) | ((with_reducible apply go_mv_sl); rfl; rfl))
             | ((with_reducible apply go_as))
             | ((with_reducible (show evOp _ (.binOp _ _ _ _ _) _ _ _ _)) ; first | ((with_reducible apply go_cmp); rfl; rfl; rfl; rfl) | ((with_reducible apply go_add); rfl; rfl; rfl; omega))
             | (((with_reducible apply go_len); rfl; rfl)))
           | ((with_reducible (show evOps _ _ _ _ _ _)); first
             | (with_reducible apply go_nil))
           | ((with_reducible (show evG _ _ _ _ _)); first
             | (with_reducible apply go_seq)
             | (with_reducible apply go_region)
             | (((with_reducible apply go_cond); rfl) <;> (intro h; simp only [h]; try simp only [decide_eq_true_eq, decide_eq_false_iff_not, Bool.not_eq_true', Bool.not_eq_false', Bool.not_true, Bool.not_false] at h; try exact absurd trivial h))
             | (with_reducible apply go_skipc)
             | (with_reducible apply go_block)
             | (with_reducible apply go_exit))
           | (with_reducible apply go_kseq)
           | (with_reducible apply go_kblock)
           | (with_reducible apply go_kblock_exit)
           | (with_reducible apply go_kseq_exit)
  all_goals try (exfalso; omega)
  refine go_count (l.length - (a + 1)) (fun q => ⟨[(3, .os 1 0 (Y ++ refB l a b q).length), (6, .int .i64 ((a + 1 + q : Nat) : Int)), (5, .int .i64 b), (4, .int .i64 a), (0, .sl (l.map encPt))], [(1, ⟨3, true, (Y ++ refB l a b q).map encB⟩)], 32, 58⟩) (fun q => (Y ++ refB l a b q).length ≤ a * 81 + m * 9 + q)
    (entails_eq (nx := 32) (k := 0) (ns := []) (ks := [3, 6, 5, 4, 0]) [(1, 1)] rfl (by simp) (by rw [show Y ++ refB l a b 0 = Y from List.append_nil _]; kernel_rfl)) (by rw [show Y ++ refB l a b 0 = Y from List.append_nil _]; omega) ?_
  intro q hq hCq
  by_cases hlq : q < l.length - (a + 1)
  rotate_left
  · have e : q = l.length - (a + 1) := by omega
    rw [← e]
    generalize Y ++ refB l a b q = Z at *
    repeat' first
           | (with_reducible apply go_op)
           | (with_reducible apply go_next)
           | ((with_reducible (show evOp _ _ _ _ _ _)); first
             | ((with_reducible (show evOp _ (.move _) _ _ _ _)) ; first | ((with_reducible apply go_mv_int); rfl; rfl) | ((with_reducible apply go_mv_sl); rfl; rfl))
             | ((with_reducible apply go_as))
             | (((with_reducible apply go_ld_ptr); rfl; rfl; rfl))
             | (((with_reducible apply go_index_nat); rfl; rfl; (with_reducible rfl); (intro; rfl); rfl; omega; (intro hlt)))
             | ((with_reducible (show evOp _ (.binOp _ _ _ _ _) _ _ _ _)) ; first | ((with_reducible apply go_cmp); rfl; rfl; rfl; rfl) | ((with_reducible apply go_add); rfl; rfl; rfl; omega))
             | (((with_reducible apply go_len); rfl; rfl))
             | (((with_reducible apply go_st_agg); rfl; rfl; rfl; rfl; rfl; rfl; rfl))
             | (((with_reducible apply go_bd3_iii); rfl; rfl; rfl; rfl; rfl))
             | (((with_reducible apply go_alloc); rfl; rfl; rfl)))
           | ((with_reducible (show evOps _ _ _ _ _ _)); first
             | (with_reducible apply go_nil)
             | ((with_reducible apply go_pre); rfl))
           | ((with_reducible (show evG _ _ _ _ _)); first
             | (with_reducible apply go_seq)
             | (with_reducible apply go_region)
             | (((with_reducible apply go_cond); rfl) <;> (intro h; simp only [h]; try simp only [decide_eq_true_eq, decide_eq_false_iff_not, Bool.not_eq_true', Bool.not_eq_false', Bool.not_true, Bool.not_false] at h; try exact absurd trivial h))
             | ((with_reducible apply go_order); kernel_rfl; rfl)
             | (with_reducible apply go_skipc)
             | (with_reducible apply go_block)
             | (with_reducible apply go_exit))
           | (with_reducible apply go_kseq)
           | (with_reducible apply go_kblock)
           | (with_reducible apply go_kblock_exit)
           | (with_reducible apply go_kseq_exit)
    all_goals try (exfalso; omega)
    exact ⟨by omega, by omega, entails_eq (nx := 32) (k := 0) (ns := []) (ks := [3, 5, 4, 0]) [(1, 1)] rfl (by simp) (by rw [hb]; kernel_rfl)⟩
  rw [refB_step]
  generalize Y ++ refB l a b q = Z at *
  obtain ⟨c, hc⟩ : ∃ c, c = a + 1 + q := ⟨_, rfl⟩
  rw [← hc]
  have hcl : c < l.length := by omega
  have ma : l[a] ∈ l := List.getElem_mem hla
  have mb : l[b] ∈ l := List.getElem_mem hbl
  have mc : l[c] ∈ l := List.getElem_mem hcl
  have x1 := c_rorient l[a] l[b] l[c] (hok _ ma) (hok _ mb) (hok _ mc)
  have x2 : 0 < crT l a b c → Contract Try.prog 84 [.sl (l.map encPt), .agg (encTri ⟨a, b, c⟩)] (.ret (.bool (belT l a b c))) := fun h => by
    rw [belT_get hla hbl hcl]
    exact c_rBelongs l (by omega) hok hf hn a b c hla hbl hcl _ _ _ rfl rfl rfl (by rw [← crT_get hla hbl hcl]; exact h)
  rw [← crT_get hla hbl hcl] at x1
  have hlen := R3_len l a b c
  have hno : ¬ 0 < crT l a b c → Z ++ R3 l a b c = Z := fun h => by rw [R3, yes, decide_eq_false h, if_neg (by simp)]; exact List.append_nil _
  have hp1 : 0 < crT l a b c → belT l a b c = true → Z ++ R3 l a b c = Z ++ [⟨⟨a, b, c⟩, by simp only; omega⟩] := fun h h' => by rw [R3, yes, decide_eq_true h, h', if_pos (by simp), mkB_eq ⟨by omega, by omega, by omega⟩]
  have hp2 : 0 < crT l a b c → belT l a b c = false → Z ++ R3 l a b c = Z := fun h h' => by rw [R3, yes, h', if_neg (by simp)]; exact List.append_nil _
  rw [← sign_gt0] at x2 hno hp1 hp2
  generalize signE (crT l a b c) = cr at *
  generalize belT l a b c = v1 at *
  repeat' first
           | (with_reducible apply go_op)
           | (with_reducible apply go_next)
           | ((with_reducible (show evOp _ _ _ _ _ _)); first
             | ((with_reducible (show evOp _ (.move _) _ _ _ _)) ; first | ((with_reducible apply go_mv_int); rfl; rfl) | ((with_reducible apply go_mv_bool); rfl; rfl) | ((with_reducible apply go_mv_sl); rfl; rfl) | ((with_reducible apply go_mv_os); rfl; rfl))
             | ((with_reducible apply go_as))
             | ((with_reducible (show evOp _ (.load _ _) _ _ _ _)) ; first | ((with_reducible apply go_ld_ptr); rfl; rfl; rfl) | ((with_reducible apply go_ld_agg); rfl; rfl; rfl; rfl))
             | (((with_reducible apply go_index_nat); rfl; rfl; (with_reducible rfl); (intro; rfl); rfl; omega; (intro hlt)))
             | ((with_reducible (show evOp _ (.binOp _ _ _ _ _) _ _ _ _)) ; first | ((with_reducible apply go_cmp); rfl; rfl; rfl; rfl) | ((with_reducible apply go_add); rfl; rfl; rfl; omega))
             | ((with_reducible (show evOp _ (.call _) _ _ _ _)) ; first | ((with_reducible apply go_len); rfl; rfl) | ((with_reducible apply go_fn_int); rfl; (exact x1); rfl) | ((with_reducible apply go_fn_bool); rfl; (exact (x2 (by assumption))); rfl))
             | (((with_reducible apply go_st_agg); rfl; rfl; rfl; rfl; rfl; rfl; rfl))
             | (((with_reducible apply go_pick); rfl; rfl; rfl))
             | (((with_reducible apply go_bd3_iii); rfl; rfl; rfl; rfl; rfl))
             | (((with_reducible apply go_alloc); rfl; rfl; rfl))
             | (((with_reducible apply go_bs1_agg); rfl; rfl; rfl; rfl; rfl; rfl)))
           | ((with_reducible (show evOps _ _ _ _ _ _)); first
             | (with_reducible apply go_nil)
             | ((with_reducible apply go_run); rfl; rfl)
             | ((with_reducible apply go_pass); rfl; rfl; rfl)
             | (((with_reducible apply go_guard); rfl) <;> (intro h; simp only [h, Bool.not_true, Bool.not_false]; (try with_reducible (refine ⟨rfl, ?_⟩)); try simp only [decide_eq_true_eq, decide_eq_false_iff_not, Bool.not_eq_true', Bool.not_eq_false', Bool.not_true, Bool.not_false] at h; try exact absurd trivial h))
             | ((with_reducible apply go_pre); rfl)
             | (with_reducible apply go_pre_nil)
             | ((with_reducible apply go_suf); rfl)
             | (with_reducible apply go_suf_nil))
           | ((with_reducible (show evG _ _ _ _ _)); first
             | (with_reducible apply go_seq)
             | (with_reducible apply go_region)
             | ((with_reducible apply go_cond_f); rfl; rfl)
             | (((with_reducible apply go_cond); rfl) <;> (intro h; simp only [h]; try simp only [decide_eq_true_eq, decide_eq_false_iff_not, Bool.not_eq_true', Bool.not_eq_false', Bool.not_true, Bool.not_false] at h; try exact absurd trivial h))
             | ((with_reducible apply go_order); kernel_rfl; rfl)
             | (with_reducible apply go_skipc)
             | (with_reducible apply go_block)
             | (with_reducible apply go_exit))
           | (with_reducible apply go_kseq)
           | (with_reducible apply go_ksuf)
           | (with_reducible apply go_kblock)
           | (with_reducible apply go_kblock_exit)
           | (with_reducible apply go_kseq_exit)
  all_goals try (exfalso; omega)
  · have e := hp1 (by assumption) (by assumption)
    refine go_app_map (f := encB) (a := ⟨⟨a, b, c⟩, by simp only; omega⟩) (l := Z) scalB rfl rfl rfl rfl rfl (by kernel_rfl) (by kernel_rfl) (by kernel_rfl) (by omega) rfl ?_
    repeat' first
           | (with_reducible apply go_op)
           | (with_reducible apply go_next)
           | ((with_reducible (show evOp _ _ _ _ _ _)); first
             | ((with_reducible (show evOp _ (.move _) _ _ _ _)) ; first | ((with_reducible apply go_mv_int); rfl; rfl) | ((with_reducible apply go_mv_os); rfl; rfl))
             | ((with_reducible apply go_as))
             | (((with_reducible apply go_add); rfl; rfl; rfl; omega)))
           | ((with_reducible (show evOps _ _ _ _ _ _)); first
             | (with_reducible apply go_nil))
           | ((with_reducible (show evG _ _ _ _ _)); first
             | (with_reducible apply go_region))
           | (with_reducible apply go_kseq)
           | (with_reducible apply go_kblock)
    all_goals try (exfalso; omega)
    exact ⟨by omega, by rw [List.length_append]; omega, by rw [e, show a + 1 + (q + 1) = c + 1 by omega]; exact entails_eq (nx := 32) (k := 0) (ns := []) (ks := [3, 6, 5, 4, 0]) [(1, 1)] rfl (by simp) (by rw [List.length_append]; kernel_rfl)⟩
  · have e := hp2 (by assumption) (by assumption)
    exact ⟨by omega, by rw [List.length_append]; omega, by rw [e, show a + 1 + (q + 1) = c + 1 by omega]; exact entails_eq (nx := 32) (k := 0) (ns := []) (ks := [3, 6, 5, 4, 0]) [(1, 1)] rfl (by simp) (by kernel_rfl)⟩
  · have e := hno (by assumption)
    exact ⟨by omega, by rw [List.length_append]; omega, by rw [e, show a + 1 + (q + 1) = c + 1 by omega]; exact entails_eq (nx := 32) (k := 0) (ns := []) (ks := [3, 6, 5, 4, 0]) [(1, 1)] rfl (by simp) (by kernel_rfl)⟩
end Go.Pv.Geo

open Go Go.Proofs Go.Pv
set_option maxHeartbeats 8000000
set_option maxRecDepth 100000
set_option linter.unusedSimpArgs false
set_option linter.unusedVariables false
namespace Go.Pv.Geo
def triEq (a b : Tri) : Bool := decide (a.a = b.a) && (decide (a.b = b.b) && (decide (a.c = b.c) && true))
theorem triEq_iff {a b : Tri} : triEq a b = true ↔ a = b := by
  cases a; cases b; simp [triEq]
theorem list_eq_get {a b : List Tri} (hl : a.length = b.length) (h : ∀ j (ha : j < a.length) (hb : j < b.length), triEq a[j] b[j] = true) : decide (a = b) = true := by
  rw [decide_eq_true_eq]
  exact List.ext_getElem hl fun j ha hb => triEq_iff.1 (h j ha hb)
theorem list_ne_get {a b : List Tri} {j : Nat} (ha : j < a.length) (hb : j < b.length) (h : triEq a[j] b[j] = false) : decide (a = b) = false := by
  rw [decide_eq_false_iff_not]
  intro e; subst e
  rw [triEq_iff.2 rfl] at h; cases h
theorem list_ne_len {a b : List Tri} (h : a.length ≠ b.length) : decide (a = b) = false := by
  rw [decide_eq_false_iff_not]
  intro e; subst e; exact h rfl
theorem c_Same (a b : List Tri) (ha : a.length < 1000000000000) (hb : b.length < 1000000000000) : Contract Try.prog 38 [.sl (a.map encTri), .sl (b.map encTri)] (.ret (.bool (decide (a = b)))) := by
  by_cases hl : a.length = b.length
  rotate_left
  · rw [list_ne_len hl]
    refine contract_of mix Try.func38 rfl rfl (by rw [Try.ntmps38]; exact Nat.le_of_ble_eq_true rfl) ?_; rw [Try.results38, Try.ntmps38]; simp only [argsE, Nat.reduceAdd]
    repeat' first
           | (with_reducible apply go_op)
           | (with_reducible apply go_next)
           | ((with_reducible (show evOp _ _ _ _ _ _)); first
             | ((with_reducible (show evOp _ (.move _) _ _ _ _)) ; first | ((with_reducible apply go_mv_int); rfl; rfl) | ((with_reducible apply go_mv_bool); rfl; rfl) | ((with_reducible apply go_mv_sl); rfl; rfl))
             | ((with_reducible apply go_as))
             | (((with_reducible apply go_cmp); rfl; rfl; rfl; rfl))
             | (((with_reducible apply go_len); rfl; rfl)))
           | ((with_reducible (show evOps _ _ _ _ _ _)); first
             | (with_reducible apply go_nil))
           | ((with_reducible (show evG _ _ _ _ _)); first
             | (with_reducible apply go_seq)
             | (with_reducible apply go_region)
             | (((with_reducible apply go_cond); rfl) <;> (intro h; simp only [h]; try simp only [decide_eq_true_eq, decide_eq_false_iff_not, Bool.not_eq_true', Bool.not_eq_false', Bool.not_true, Bool.not_false] at h; try exact absurd trivial h))
             | (with_reducible apply go_ret)
             | (with_reducible apply go_skipc)
             | (with_reducible apply go_block))
           | (with_reducible apply go_kseq)
           | (with_reducible apply go_kseq_ret)
           | ((with_reducible apply end_bool); rfl)
           | (with_reducible rfl)
    all_goals first
      | (exfalso; omega)
      | rfl
      | trace_state
  refine contract_of mix Try.func38 rfl rfl (by rw [Try.ntmps38]; exact Nat.le_of_ble_eq_true rfl) ?_; rw [Try.results38, Try.ntmps38]; simp only [argsE, Nat.reduceAdd]
  repeat' first
           | (with_reducible apply go_op)
           | (with_reducible apply go_next)
           | ((with_reducible (show evOp _ _ _ _ _ _)); first
             | ((with_reducible (show evOp _ (.move _) _ _ _ _)) ; first | ((with_reducible apply go_mv_int); rfl; rfl) | ((with_reducible apply go_mv_bool); rfl; rfl) | ((with_reducible apply go_mv_sl); rfl; rfl))
             | ((with_reducible apply go_as))
             | (((with_reducible apply go_cmp); rfl; rfl; rfl; rfl))
             | (((with_reducible apply go_len); rfl; rfl)))
           | ((with_reducible (show evOps _ _ _ _ _ _)); first
             | (with_reducible apply go_nil))
           | ((with_reducible (show evG _ _ _ _ _)); first
             | (with_reducible apply go_seq)
             | (with_reducible apply go_region)
             | (((with_reducible apply go_cond); rfl) <;> (intro h; simp only [h]; try simp only [decide_eq_true_eq, decide_eq_false_iff_not, Bool.not_eq_true', Bool.not_eq_false', Bool.not_true, Bool.not_false] at h; try exact absurd trivial h))
             | (with_reducible apply go_ret)
             | (with_reducible apply go_skipc)
             | (with_reducible apply go_block))
           | (with_reducible apply go_kseq)
           | (with_reducible apply go_kseq_ret)
           | ((with_reducible apply end_bool); rfl)
  all_goals try (exfalso; omega)
  refine go_count a.length (fun i => ⟨[(5, .int .i64 i), (0, .sl (a.map encTri)), (1, .sl (b.map encTri))], [], 32, 26⟩) (fun i => ∀ j (hj : j < i) (h1 : j < a.length) (h2 : j < b.length), triEq a[j] b[j] = true)
    (entails_eq (nx := 32) (k := 0) (ns := []) (ks := [5, 0, 1]) [] rfl (by simp) (by kernel_rfl)) (fun j hj _ _ => absurd hj (Nat.not_lt_zero _)) ?_
  intro i hi hC
  by_cases hlt : i < a.length
  · have hlb : i < b.length := by omega
    have he : triEq a[i] b[i] = (decide (a[i].a = b[i].a) && (decide (a[i].b = b[i].b) && (decide (a[i].c = b[i].c) && true))) := rfl
    have hno := fun h => list_ne_get hlt hlb (he.trans h)
    repeat' first
           | (with_reducible apply go_op)
           | (with_reducible apply go_next)
           | ((with_reducible (show evOp _ _ _ _ _ _)); first
             | ((with_reducible (show evOp _ (.move _) _ _ _ _)) ; first | ((with_reducible apply go_mv_int); rfl; rfl) | ((with_reducible apply go_mv_bool); rfl; rfl) | ((with_reducible apply go_mv_sl); rfl; rfl))
             | ((with_reducible apply go_as))
             | (((with_reducible apply go_ld_ptr); rfl; rfl; rfl))
             | (((with_reducible apply go_index_nat); rfl; rfl; (with_reducible rfl); (intro; rfl); rfl; omega; (intro hlt)))
             | ((with_reducible (show evOp _ (.binOp _ _ _ _ _) _ _ _ _)) ; first | ((with_reducible apply go_cmp); rfl; rfl; rfl; rfl) | ((with_reducible apply go_add); rfl; rfl; rfl; omega) | ((with_reducible apply go_neq_agg); rfl; rfl; rfl; rfl))
             | (((with_reducible apply go_len); rfl; rfl)))
           | ((with_reducible (show evOps _ _ _ _ _ _)); first
             | (with_reducible apply go_nil)
             | ((with_reducible apply go_pre); rfl)
             | (with_reducible apply go_pre_nil)
             | ((with_reducible apply go_suf); rfl)
             | (with_reducible apply go_suf_nil))
           | ((with_reducible (show evG _ _ _ _ _)); first
             | (with_reducible apply go_seq)
             | (with_reducible apply go_region)
             | (((with_reducible apply go_cond); rfl) <;> (intro h; simp only [h]; try simp only [decide_eq_true_eq, decide_eq_false_iff_not, Bool.not_eq_true', Bool.not_eq_false', Bool.not_true, Bool.not_false] at h; try exact absurd trivial h))
             | ((with_reducible apply go_order); kernel_rfl; rfl)
             | (with_reducible apply go_ret)
             | (with_reducible apply go_skipc)
             | (with_reducible apply go_block)
             | (with_reducible apply go_exit))
           | (with_reducible apply go_kseq)
           | (with_reducible apply go_ksuf)
           | (with_reducible apply go_kseq_ret)
           | (with_reducible apply go_kblock)
           | (with_reducible apply go_kblock_ret)
           | (with_reducible apply go_kblock_exit)
           | (with_reducible apply go_kseq_exit)
           | ((with_reducible apply end_bool); rfl)
    all_goals try (exfalso; omega)
    all_goals first
      | exact (hno (by simp_all; done)).symm
      | (refine ⟨by omega, fun j hj h1 h2 => ?_, entails_eq (nx := 32) (k := 0) (ns := []) (ks := [5, 0, 1]) [] rfl (by simp) (by kernel_rfl)⟩
         rcases Nat.lt_succ_iff_lt_or_eq.1 hj with h' | rfl
         · exact hC j h' h1 h2
         · exact he.trans (by simp_all; done))
      | trace_state
  · have hy := list_eq_get hl fun j h1 h2 => hC j (by omega) h1 h2
    rw [hy]
    repeat' first
           | (with_reducible apply go_op)
           | (with_reducible apply go_next)
           | ((with_reducible (show evOp _ _ _ _ _ _)); first
             | ((with_reducible (show evOp _ (.move _) _ _ _ _)) ; first | ((with_reducible apply go_mv_int); rfl; rfl) | ((with_reducible apply go_mv_bool); rfl; rfl) | ((with_reducible apply go_mv_sl); rfl; rfl))
             | ((with_reducible apply go_as))
             | (((with_reducible apply go_ld_ptr); rfl; rfl; rfl))
             | (((with_reducible apply go_index_nat); rfl; rfl; (with_reducible rfl); (intro; rfl); rfl; omega; (intro hlt)))
             | ((with_reducible (show evOp _ (.binOp _ _ _ _ _) _ _ _ _)) ; first | ((with_reducible apply go_cmp); rfl; rfl; rfl; rfl) | ((with_reducible apply go_add); rfl; rfl; rfl; omega) | ((with_reducible apply go_neq_agg); rfl; rfl; rfl; rfl))
             | (((with_reducible apply go_len); rfl; rfl)))
           | ((with_reducible (show evOps _ _ _ _ _ _)); first
             | (with_reducible apply go_nil)
             | ((with_reducible apply go_pre); rfl)
             | (with_reducible apply go_pre_nil)
             | ((with_reducible apply go_suf); rfl)
             | (with_reducible apply go_suf_nil))
           | ((with_reducible (show evG _ _ _ _ _)); first
             | (with_reducible apply go_seq)
             | (with_reducible apply go_region)
             | (((with_reducible apply go_cond); rfl) <;> (intro h; simp only [h]; try simp only [decide_eq_true_eq, decide_eq_false_iff_not, Bool.not_eq_true', Bool.not_eq_false', Bool.not_true, Bool.not_false] at h; try exact absurd trivial h))
             | ((with_reducible apply go_order); kernel_rfl; rfl)
             | (with_reducible apply go_ret)
             | (with_reducible apply go_skipc)
             | (with_reducible apply go_block)
             | (with_reducible apply go_exit))
           | (with_reducible apply go_kseq)
           | (with_reducible apply go_ksuf)
           | (with_reducible apply go_kseq_ret)
           | (with_reducible apply go_kblock)
           | (with_reducible apply go_kblock_ret)
           | (with_reducible apply go_kblock_exit)
           | (with_reducible apply go_kseq_exit)
           | ((with_reducible apply end_bool); rfl)
           | (with_reducible rfl)
    all_goals first
      | (exfalso; omega)
      | rfl
      | trace_state
end Go.Pv.Geo

open Go Go.Proofs Go.Pv
set_option maxHeartbeats 8000000
set_option maxRecDepth 100000
set_option linter.unusedSimpArgs false
set_option linter.unusedVariables false
namespace Go.Pv.Geo
theorem c_EqualTri (a b : List Tri) (ha : a.length < 1000000000000) (hb : b.length < 1000000000000) : Contract Try.prog 85 [.sl (a.map encTri), .sl (b.map encTri)] (.ret (.bool (decide (a = b)))) := by
  by_cases hl : a.length = b.length
  rotate_left
  · rw [list_ne_len hl]
    refine contract_of mix Try.func85 rfl rfl (by rw [Try.ntmps85]; exact Nat.le_of_ble_eq_true rfl) ?_; rw [Try.results85, Try.ntmps85]; simp only [argsE, Nat.reduceAdd]
    repeat' first
           | (with_reducible apply go_op)
           | (with_reducible apply go_next)
           | ((with_reducible (show evOp _ _ _ _ _ _)); first
             | ((with_reducible (show evOp _ (.move _) _ _ _ _)) ; first | ((with_reducible apply go_mv_int); rfl; rfl) | ((with_reducible apply go_mv_bool); rfl; rfl) | ((with_reducible apply go_mv_sl); rfl; rfl))
             | ((with_reducible apply go_as))
             | (((with_reducible apply go_cmp); rfl; rfl; rfl; rfl))
             | (((with_reducible apply go_len); rfl; rfl)))
           | ((with_reducible (show evOps _ _ _ _ _ _)); first
             | (with_reducible apply go_nil))
           | ((with_reducible (show evG _ _ _ _ _)); first
             | (with_reducible apply go_seq)
             | (with_reducible apply go_region)
             | (((with_reducible apply go_cond); rfl) <;> (intro h; simp only [h]; try simp only [decide_eq_true_eq, decide_eq_false_iff_not, Bool.not_eq_true', Bool.not_eq_false', Bool.not_true, Bool.not_false] at h; try exact absurd trivial h))
             | (with_reducible apply go_ret)
             | (with_reducible apply go_skipc)
             | (with_reducible apply go_block))
           | (with_reducible apply go_kseq)
           | (with_reducible apply go_kseq_ret)
           | ((with_reducible apply end_bool); rfl)
           | (with_reducible rfl)
    all_goals first
      | (exfalso; omega)
      | rfl
      | trace_state
  refine contract_of mix Try.func85 rfl rfl (by rw [Try.ntmps85]; exact Nat.le_of_ble_eq_true rfl) ?_; rw [Try.results85, Try.ntmps85]; simp only [argsE, Nat.reduceAdd]
  repeat' first
           | (with_reducible apply go_op)
           | (with_reducible apply go_next)
           | ((with_reducible (show evOp _ _ _ _ _ _)); first
             | ((with_reducible (show evOp _ (.move _) _ _ _ _)) ; first | ((with_reducible apply go_mv_int); rfl; rfl) | ((with_reducible apply go_mv_bool); rfl; rfl) | ((with_reducible apply go_mv_sl); rfl; rfl))
             | ((with_reducible apply go_as))
             | (((with_reducible apply go_cmp); rfl; rfl; rfl; rfl))
             | (((with_reducible apply go_len); rfl; rfl)))
           | ((with_reducible (show evOps _ _ _ _ _ _)); first
             | (with_reducible apply go_nil))
           | ((with_reducible (show evG _ _ _ _ _)); first
             | (with_reducible apply go_seq)
             | (with_reducible apply go_region)
             | (((with_reducible apply go_cond); rfl) <;> (intro h; simp only [h]; try simp only [decide_eq_true_eq, decide_eq_false_iff_not, Bool.not_eq_true', Bool.not_eq_false', Bool.not_true, Bool.not_false] at h; try exact absurd trivial h))
             | (with_reducible apply go_ret)
             | (with_reducible apply go_skipc)
             | (with_reducible apply go_block))
           | (with_reducible apply go_kseq)
           | (with_reducible apply go_kseq_ret)
           | ((with_reducible apply end_bool); rfl)
  all_goals try (exfalso; omega)
  refine go_count a.length (fun i => ⟨[(13, .int .i64 i), (12, .int .i64 a.length), (0, .sl (a.map encTri)), (1, .sl (b.map encTri))], [], 32, 26⟩) (fun i => ∀ j (hj : j < i) (h1 : j < a.length) (h2 : j < b.length), triEq a[j] b[j] = true)
    (entails_eq (nx := 32) (k := 0) (ns := []) (ks := [13, 12, 0, 1]) [] rfl (by simp) (by kernel_rfl)) (fun j hj _ _ => absurd hj (Nat.not_lt_zero _)) ?_
  intro i hi hC
  by_cases hlt : i < a.length
  · have hlb : i < b.length := by omega
    have he : triEq a[i] b[i] = (decide (a[i].a = b[i].a) && (decide (a[i].b = b[i].b) && (decide (a[i].c = b[i].c) && true))) := rfl
    have hno := fun h => list_ne_get hlt hlb (he.trans h)
    repeat' first
           | (with_reducible apply go_op)
           | (with_reducible apply go_next)
           | ((with_reducible (show evOp _ _ _ _ _ _)); first
             | ((with_reducible (show evOp _ (.move _) _ _ _ _)) ; first | ((with_reducible apply go_mv_int); rfl; rfl) | ((with_reducible apply go_mv_bool); rfl; rfl) | ((with_reducible apply go_mv_sl); rfl; rfl))
             | ((with_reducible apply go_as))
             | (((with_reducible apply go_ld_ptr); rfl; rfl; rfl))
             | (((with_reducible apply go_index_nat); rfl; rfl; (with_reducible rfl); (intro; rfl); rfl; omega; (intro hlt)))
             | ((with_reducible (show evOp _ (.binOp _ _ _ _ _) _ _ _ _)) ; first | ((with_reducible apply go_cmp); rfl; rfl; rfl; rfl) | ((with_reducible apply go_add); rfl; rfl; rfl; omega) | ((with_reducible apply go_neq_agg); rfl; rfl; rfl; rfl)))
           | ((with_reducible (show evOps _ _ _ _ _ _)); first
             | (with_reducible apply go_nil)
             | ((with_reducible apply go_pre); rfl)
             | (with_reducible apply go_pre_nil)
             | ((with_reducible apply go_suf); rfl)
             | (with_reducible apply go_suf_nil))
           | ((with_reducible (show evG _ _ _ _ _)); first
             | (with_reducible apply go_seq)
             | (with_reducible apply go_region)
             | (((with_reducible apply go_cond); rfl) <;> (intro h; simp only [h]; try simp only [decide_eq_true_eq, decide_eq_false_iff_not, Bool.not_eq_true', Bool.not_eq_false', Bool.not_true, Bool.not_false] at h; try exact absurd trivial h))
             | ((with_reducible apply go_order); kernel_rfl; rfl)
             | (with_reducible apply go_ret)
             | (with_reducible apply go_skipc)
             | (with_reducible apply go_block)
             | (with_reducible apply go_exit))
           | (with_reducible apply go_kseq)
           | (with_reducible apply go_ksuf)
           | (with_reducible apply go_kseq_ret)
           | (with_reducible apply go_kblock)
           | (with_reducible apply go_kblock_ret)
           | (with_reducible apply go_kblock_exit)
           | (with_reducible apply go_kseq_exit)
           | ((with_reducible apply end_bool); rfl)
    all_goals try (exfalso; omega)
    all_goals first
      | exact (hno (by simp_all; done)).symm
      | (refine ⟨by omega, fun j hj h1 h2 => ?_, entails_eq (nx := 32) (k := 0) (ns := []) (ks := [13, 12, 0, 1]) [] rfl (by simp) (by kernel_rfl)⟩
         rcases Nat.lt_succ_iff_lt_or_eq.1 hj with h' | rfl
         · exact hC j h' h1 h2
         · exact he.trans (by simp_all; done))
      | trace_state
  · have hy := list_eq_get hl fun j h1 h2 => hC j (by omega) h1 h2
    rw [hy]
    repeat' first
           | (with_reducible apply go_op)
           | (with_reducible apply go_next)
           | ((with_reducible (show evOp _ _ _ _ _ _)); first
             | ((with_reducible (show evOp _ (.move _) _ _ _ _)) ; first | ((with_reducible apply go_mv_int); rfl; rfl) | ((with_reducible apply go_mv_bool); rfl; rfl) | ((with_reducible apply go_mv_sl); rfl; rfl))
             | ((with_reducible apply go_as))
             | (((with_reducible apply go_ld_ptr); rfl; rfl; rfl))
             | (((with_reducible apply go_index_nat); rfl; rfl; (with_reducible rfl); (intro; rfl); rfl; omega; (intro hlt)))
             | ((with_reducible (show evOp _ (.binOp _ _ _ _ _) _ _ _ _)) ; first | ((with_reducible apply go_cmp); rfl; rfl; rfl; rfl) | ((with_reducible apply go_add); rfl; rfl; rfl; omega) | ((with_reducible apply go_neq_agg); rfl; rfl; rfl; rfl)))
           | ((with_reducible (show evOps _ _ _ _ _ _)); first
             | (with_reducible apply go_nil)
             | ((with_reducible apply go_pre); rfl)
             | (with_reducible apply go_pre_nil)
             | ((with_reducible apply go_suf); rfl)
             | (with_reducible apply go_suf_nil))
           | ((with_reducible (show evG _ _ _ _ _)); first
             | (with_reducible apply go_seq)
             | (with_reducible apply go_region)
             | (((with_reducible apply go_cond); rfl) <;> (intro h; simp only [h]; try simp only [decide_eq_true_eq, decide_eq_false_iff_not, Bool.not_eq_true', Bool.not_eq_false', Bool.not_true, Bool.not_false] at h; try exact absurd trivial h))
             | ((with_reducible apply go_order); kernel_rfl; rfl)
             | (with_reducible apply go_ret)
             | (with_reducible apply go_skipc)
             | (with_reducible apply go_block)
             | (with_reducible apply go_exit))
           | (with_reducible apply go_kseq)
           | (with_reducible apply go_ksuf)
           | (with_reducible apply go_kseq_ret)
           | (with_reducible apply go_kblock)
           | (with_reducible apply go_kblock_ret)
           | (with_reducible apply go_kblock_exit)
           | (with_reducible apply go_kseq_exit)
           | ((with_reducible apply end_bool); rfl)
           | (with_reducible rfl)
    all_goals first
      | (exfalso; omega)
      | rfl
      | trace_state
/-- The triangles of a patch. -/
def triX (l : List Pt) : List Tri := if patchE l = 0 then (refL l l.length).map Subtype.val else []
theorem ref_map (l : List Pt) : (refL l l.length).map encB = ((refL l l.length).map Subtype.val).map encTri := by rw [List.map_map]; rfl
theorem ref_len {l : List Pt} (hl : l.length ≤ 9) : (refL l l.length).length ≤ 1000 := by
  have h1 : ∀ k, (refL l k).length ≤ k * 81 := accF_len (f := fun a => refA l a (l.length - (a + 1))) (B := 81) fun a => by
    have := accF_len (f := fun m => refB l a (a + 1 + m) (l.length - (a + 1))) (B := 9) (fun m => by
      have := accF_len (f := fun q => R3 l a (a + 1 + m) (a + 1 + q)) (B := 1) (fun q => R3_len _ _ _ _) (l.length - (a + 1))
      show (accF _ _).length ≤ 9
      omega) (l.length - (a + 1))
    show (accF _ _).length ≤ 81
    have h2 := Nat.mul_le_mul_right 9 (show l.length - (a + 1) ≤ 9 by omega)
    omega
  have := h1 l.length
  have h2 := Nat.mul_le_mul_right 81 hl
  omega
theorem triX_len {l : List Pt} (hl : l.length ≤ 9) : (triX l).length ≤ 1000 := by
  unfold triX; split
  · rw [List.length_map]; exact ref_len hl
  · simp
theorem c_Triangulate (l : List Pt) (hl : l.length ≤ 9 ∨ patchE l ≠ 0) (hb : l.length < 1000000000000) : Contract Try.prog 30 [.sl (l.map encPt)] (.ret (.tup [.fr 3 ((triX l).map encTri), .int .i64 (patchE l)])) := by
  have h1 := c_patchErr l hb
  by_cases hz : patchE l = 0
  rotate_left
  · rw [show triX l = [] from if_neg hz]
    generalize patchE l = e at *
    refine contract_of mix Try.func30 rfl rfl (by rw [Try.ntmps30]; exact Nat.le_of_ble_eq_true rfl) ?_; rw [Try.results30, Try.ntmps30]; simp only [argsE, Nat.reduceAdd]
    repeat' first
           | (with_reducible apply go_op)
           | (with_reducible apply go_next)
           | ((with_reducible (show evOp _ _ _ _ _ _)); first
             | ((with_reducible (show evOp _ (.move _) _ _ _ _)) ; first | ((with_reducible apply go_mv_int); rfl; rfl) | ((with_reducible apply go_mv_sl); rfl; rfl) | ((with_reducible apply go_mv_nilsl); rfl; rfl))
             | ((with_reducible apply go_as))
             | (((with_reducible apply go_cmp); rfl; rfl; rfl; rfl))
             | (((with_reducible apply go_fn_int); rfl; (exact h1); rfl)))
           | ((with_reducible (show evOps _ _ _ _ _ _)); first
             | (with_reducible apply go_nil))
           | ((with_reducible (show evG _ _ _ _ _)); first
             | (with_reducible apply go_seq)
             | (with_reducible apply go_region)
             | (((with_reducible apply go_cond); rfl) <;> (intro h; simp only [h]; try simp only [decide_eq_true_eq, decide_eq_false_iff_not, Bool.not_eq_true', Bool.not_eq_false', Bool.not_true, Bool.not_false] at h; try exact absurd trivial h))
             | (with_reducible apply go_ret)
             | (with_reducible apply go_skipc))
           | (with_reducible apply go_kseq)
           | (with_reducible apply go_kseq_ret)
    all_goals first
      | (exfalso; omega)
      | exact finK_ret (fin_nil2 rfl rfl rfl)
      | trace_state
  obtain ⟨hc, hn, hf⟩ := patch_ok hz
  obtain ⟨-, hok⟩ := chk_ok hc
  have h2 := c_triangulate l (by omega) hok hf
  rw [ref_map] at h2
  rw [show triX l = (refL l l.length).map Subtype.val from if_pos hz]
  rw [hz] at h1 ⊢
  generalize (refL l l.length).map Subtype.val = R at *
  refine contract_of mix Try.func30 rfl rfl (by rw [Try.ntmps30]; exact Nat.le_of_ble_eq_true rfl) ?_; rw [Try.results30, Try.ntmps30]; simp only [argsE, Nat.reduceAdd]
  repeat' first
           | (with_reducible apply go_op)
           | (with_reducible apply go_next)
           | ((with_reducible (show evOp _ _ _ _ _ _)); first
             | ((with_reducible (show evOp _ (.move _) _ _ _ _)) ; first | ((with_reducible apply go_mv_int); rfl; rfl) | ((with_reducible apply go_mv_sl); rfl; rfl) | ((with_reducible apply go_mv_os); rfl; rfl) | ((with_reducible apply go_mv_nilsl); rfl; rfl))
             | ((with_reducible apply go_as))
             | (((with_reducible apply go_cmp); rfl; rfl; rfl; rfl))
             | ((with_reducible (show evOp _ (.call _) _ _ _ _)) ; first | ((with_reducible apply go_fn_int); rfl; (exact h1); rfl) | ((with_reducible apply go_fn_fr); rfl; (exact h2); (exact scalTri); rfl)))
           | ((with_reducible (show evOps _ _ _ _ _ _)); first
             | (with_reducible apply go_nil))
           | ((with_reducible (show evG _ _ _ _ _)); first
             | (with_reducible apply go_seq)
             | (with_reducible apply go_region)
             | ((with_reducible apply go_cond_f); rfl; rfl)
             | (with_reducible apply go_ret)
             | (with_reducible apply go_skipc))
           | (with_reducible apply go_kseq)
  all_goals first
    | (exfalso; omega)
    | exact finK_ret (fin_fr2 rfl (by simp) rfl rfl rfl)
    | trace_state
def chkTE (l : List Pt) (t : List Tri) : Int := if patchE l ≠ 0 then patchE l else if t = triX l then 0 else 21
theorem c_CheckTriangles (l : List Pt) (t : List Tri) (hl : l.length ≤ 9) (ht : t.length < 1000000000000) : Contract Try.prog 40 [.sl (l.map encPt), .sl (t.map encTri)] (.ret (.int .i64 (chkTE l t))) := by
  have h1 := c_Triangulate l (.inl hl) (by omega)
  have hxl := triX_len hl
  have h2 := c_EqualTri (triX l) t (by omega) ht
  by_cases hz : patchE l = 0
  rotate_left
  · rw [show chkTE l t = patchE l from if_pos hz]
    generalize patchE l = e at *
    generalize triX l = T at *
    refine contract_of mix Try.func40 rfl rfl (by rw [Try.ntmps40]; exact Nat.le_of_ble_eq_true rfl) ?_; rw [Try.results40, Try.ntmps40]; simp only [argsE, Nat.reduceAdd]
    repeat' first
           | (with_reducible apply go_op)
           | (with_reducible apply go_next)
           | ((with_reducible (show evOp _ _ _ _ _ _)); first
             | ((with_reducible (show evOp _ (.move _) _ _ _ _)) ; first | ((with_reducible apply go_mv_int); rfl; rfl) | ((with_reducible apply go_mv_sl); rfl; rfl) | ((with_reducible apply go_mv_os); rfl; rfl) | ((with_reducible apply go_mv_tup); rfl; rfl))
             | ((with_reducible apply go_as))
             | (((with_reducible apply go_cmp); rfl; rfl; rfl; rfl))
             | (((with_reducible apply go_fn_fr2); rfl; (exact h1); (exact scalTri); rfl; rfl))
             | (((with_reducible apply go_extract); rfl; rfl)))
           | ((with_reducible (show evOps _ _ _ _ _ _)); first
             | (with_reducible apply go_nil))
           | ((with_reducible (show evG _ _ _ _ _)); first
             | (with_reducible apply go_seq)
             | (with_reducible apply go_region)
             | (((with_reducible apply go_cond); rfl) <;> (intro h; simp only [h]; try simp only [decide_eq_true_eq, decide_eq_false_iff_not, Bool.not_eq_true', Bool.not_eq_false', Bool.not_true, Bool.not_false] at h; try exact absurd trivial h))
             | (with_reducible apply go_ret)
             | (with_reducible apply go_skipc))
           | (with_reducible apply go_kseq)
           | (with_reducible apply go_kseq_ret)
           | ((with_reducible apply end_int); rfl)
           | (with_reducible rfl)
    all_goals first
      | (exfalso; omega)
      | rfl
      | trace_state
  have hch : chkTE l t = if decide (triX l = t) = true then 0 else 21 := by
    unfold chkTE
    rw [if_neg (by omega)]
    by_cases e : triX l = t
    · rw [if_pos e.symm, if_pos (by simp [e])]
    · rw [if_neg (fun h => e h.symm), if_neg (by simp [e])]
  rw [hch]
  rw [hz] at h1
  generalize triX l = T at *
  generalize decide (T = t) = v at *
  refine contract_of mix Try.func40 rfl rfl (by rw [Try.ntmps40]; exact Nat.le_of_ble_eq_true rfl) ?_; rw [Try.results40, Try.ntmps40]; simp only [argsE, Nat.reduceAdd]
  repeat' first
           | (with_reducible apply go_op)
           | (with_reducible apply go_next)
           | ((with_reducible (show evOp _ _ _ _ _ _)); first
             | ((with_reducible (show evOp _ (.move _) _ _ _ _)) ; first | ((with_reducible apply go_mv_int); rfl; rfl) | ((with_reducible apply go_mv_sl); rfl; rfl) | ((with_reducible apply go_mv_os); rfl; rfl) | ((with_reducible apply go_mv_tup); rfl; rfl))
             | ((with_reducible apply go_as))
             | (((with_reducible apply go_cmp); rfl; rfl; rfl; rfl))
             | ((with_reducible (show evOp _ (.call _) _ _ _ _)) ; first | ((with_reducible apply go_fn_fr2); rfl; (exact h1); (exact scalTri); rfl; rfl) | ((with_reducible apply go_fn_bool); (exact purL_os rfl (by simp) rfl); (exact h2); rfl))
             | (((with_reducible apply go_not); rfl; rfl))
             | (((with_reducible apply go_extract); rfl; rfl)))
           | ((with_reducible (show evOps _ _ _ _ _ _)); first
             | (with_reducible apply go_nil))
           | ((with_reducible (show evG _ _ _ _ _)); first
             | (with_reducible apply go_seq)
             | (with_reducible apply go_region)
             | ((with_reducible apply go_cond_f); rfl; rfl)
             | (((with_reducible apply go_cond); rfl) <;> (intro h; simp only [h]; try simp only [decide_eq_true_eq, decide_eq_false_iff_not, Bool.not_eq_true', Bool.not_eq_false', Bool.not_true, Bool.not_false] at h; try exact absurd trivial h))
             | (with_reducible apply go_ret)
             | (with_reducible apply go_skipc))
           | (with_reducible apply go_kseq)
           | (with_reducible apply go_kseq_ret)
           | ((with_reducible apply end_int); rfl)
  all_goals first
    | (exfalso; omega)
    | (simp_all; done)
    | trace_state
theorem c_rCheckTriangles (l : List Pt) (t : List Tri) (hl : l.length ≤ 9) (ht : t.length < 1000000000000) : Contract Try.prog 41 [.sl (l.map encPt), .sl (t.map encTri)] (.ret (.int .i64 (chkTE l t))) := by
  have h1 := c_CheckPatch l (by omega)
  by_cases hz : patchE l = 0
  rotate_left
  · rw [show chkTE l t = patchE l from if_pos hz]
    generalize patchE l = e at *
    refine contract_of mix Try.func41 rfl rfl (by rw [Try.ntmps41]; exact Nat.le_of_ble_eq_true rfl) ?_; rw [Try.results41, Try.ntmps41]; simp only [argsE, Nat.reduceAdd]
    repeat' first
           | (with_reducible apply go_op)
           | (with_reducible apply go_next)
           | ((with_reducible (show evOp _ _ _ _ _ _)); first
             | ((with_reducible (show evOp _ (.move _) _ _ _ _)) ; first | ((with_reducible apply go_mv_int); rfl; rfl) | ((with_reducible apply go_mv_sl); rfl; rfl))
             | ((with_reducible apply go_as))
             | (((with_reducible apply go_cmp); rfl; rfl; rfl; rfl))
             | (((with_reducible apply go_fn_int); rfl; (exact h1); rfl)))
           | ((with_reducible (show evOps _ _ _ _ _ _)); first
             | (with_reducible apply go_nil))
           | ((with_reducible (show evG _ _ _ _ _)); first
             | (with_reducible apply go_seq)
             | (with_reducible apply go_region)
             | (((with_reducible apply go_cond); rfl) <;> (intro h; simp only [h]; try simp only [decide_eq_true_eq, decide_eq_false_iff_not, Bool.not_eq_true', Bool.not_eq_false', Bool.not_true, Bool.not_false] at h; try exact absurd trivial h))
             | (with_reducible apply go_ret)
             | (with_reducible apply go_skipc))
           | (with_reducible apply go_kseq)
           | (with_reducible apply go_kseq_ret)
           | ((with_reducible apply end_int); rfl)
           | (with_reducible rfl)
    all_goals first
      | (exfalso; omega)
      | rfl
      | trace_state
  obtain ⟨hc, hn, hf⟩ := patch_ok hz
  obtain ⟨-, hok⟩ := chk_ok hc
  have h2 := c_rTriangulate l hl hok hf hn
  rw [ref_map] at h2
  have hxl := ref_len hl
  have h3 := c_Same t ((refL l l.length).map Subtype.val) ht (by rw [List.length_map]; omega)
  have hch : chkTE l t = if decide (t = (refL l l.length).map Subtype.val) = true then 0 else 21 := by
    unfold chkTE
    rw [if_neg (by omega), show triX l = (refL l l.length).map Subtype.val from if_pos hz]
    by_cases e : t = (refL l l.length).map Subtype.val
    · rw [if_pos e, if_pos (by simp [e])]
    · rw [if_neg e, if_neg (by rw [decide_eq_true_eq]; exact e)]
  rw [hch]
  rw [hz] at h1
  generalize (refL l l.length).map Subtype.val = T at *
  generalize decide (t = T) = v at *
  refine contract_of mix Try.func41 rfl rfl (by rw [Try.ntmps41]; exact Nat.le_of_ble_eq_true rfl) ?_; rw [Try.results41, Try.ntmps41]; simp only [argsE, Nat.reduceAdd]
  repeat' first
           | (with_reducible apply go_op)
           | (with_reducible apply go_next)
           | ((with_reducible (show evOp _ _ _ _ _ _)); first
             | ((with_reducible (show evOp _ (.move _) _ _ _ _)) ; first | ((with_reducible apply go_mv_int); rfl; rfl) | ((with_reducible apply go_mv_sl); rfl; rfl))
             | ((with_reducible apply go_as))
             | (((with_reducible apply go_cmp); rfl; rfl; rfl; rfl))
             | ((with_reducible (show evOp _ (.call _) _ _ _ _)) ; first | ((with_reducible apply go_fn_int); rfl; (exact h1); rfl) | ((with_reducible apply go_fn_fr); rfl; (exact h2); (exact scalTri); rfl) | ((with_reducible apply go_fn_bool); (exact purL_os2 rfl rfl (by simp) rfl); (exact h3); rfl))
             | (((with_reducible apply go_not); rfl; rfl)))
           | ((with_reducible (show evOps _ _ _ _ _ _)); first
             | (with_reducible apply go_nil))
           | ((with_reducible (show evG _ _ _ _ _)); first
             | (with_reducible apply go_seq)
             | (with_reducible apply go_region)
             | ((with_reducible apply go_cond_f); rfl; rfl)
             | (((with_reducible apply go_cond); rfl) <;> (intro h; simp only [h]; try simp only [decide_eq_true_eq, decide_eq_false_iff_not, Bool.not_eq_true', Bool.not_eq_false', Bool.not_true, Bool.not_false] at h; try exact absurd trivial h))
             | (with_reducible apply go_ret)
             | (with_reducible apply go_skipc))
           | (with_reducible apply go_kseq)
           | (with_reducible apply go_kseq_ret)
           | ((with_reducible apply end_int); rfl)
  all_goals first
    | (exfalso; omega)
    | (simp_all; done)
    | trace_state
end Go.Pv.Geo

open Go Go.Proofs Go.Pv
set_option maxHeartbeats 8000000
set_option maxRecDepth 100000
set_option linter.unusedSimpArgs false
set_option linter.unusedVariables false
namespace Go.Pv.Geo
theorem c_law8 (l : List Pt) (t : List Tri) (hl : l.length ≤ 9223372036854775807) (ht : t.length ≤ 9223372036854775807) : Contract Try.prog 8 [.sl (l.map encPt), .sl (t.map encTri)] (.ret (.bool true)) := by
  by_cases h8 : l.length ≤ 8 ∧ t.length ≤ 20
  rotate_left
  · refine contract_of mix Try.func8 rfl rfl (by rw [Try.ntmps8]; exact Nat.le_of_ble_eq_true rfl) ?_; rw [Try.results8, Try.ntmps8]; simp only [argsE, Nat.reduceAdd]
    repeat' first
           | (with_reducible apply go_op)
           | (with_reducible apply go_next)
           | ((with_reducible (show evOp _ _ _ _ _ _)); first
             | ((with_reducible (show evOp _ (.move _) _ _ _ _)) ; first | ((with_reducible apply go_mv_bool); rfl; rfl) | ((with_reducible apply go_mv_sl); rfl; rfl))
             | ((with_reducible apply go_as))
             | (((with_reducible apply go_cmp); rfl; rfl; rfl; rfl))
             | ((with_reducible (show evOp _ (.call _) _ _ _ _)) ; first | ((with_reducible apply go_len); rfl; rfl) | ((with_reducible apply go_fn_bool); rfl; (exact c_awake); rfl))
             | (((with_reducible apply go_not); rfl; rfl))
             | (((with_reducible apply go_pick); rfl; rfl; rfl)))
           | ((with_reducible (show evOps _ _ _ _ _ _)); first
             | (with_reducible apply go_nil)
             | ((with_reducible apply go_run); rfl; rfl)
             | ((with_reducible apply go_pass); rfl; rfl; rfl)
             | (((with_reducible apply go_guard); rfl) <;> (intro h; simp only [h, Bool.not_true, Bool.not_false]; (try with_reducible (refine ⟨rfl, ?_⟩)); try simp only [decide_eq_true_eq, decide_eq_false_iff_not, Bool.not_eq_true', Bool.not_eq_false', Bool.not_true, Bool.not_false] at h; try exact absurd trivial h)))
           | ((with_reducible (show evG _ _ _ _ _)); first
             | (with_reducible apply go_seq)
             | (with_reducible apply go_region)
             | ((with_reducible apply go_cond_t); rfl; rfl)
             | ((with_reducible apply go_cond_f); rfl; rfl)
             | (((with_reducible apply go_cond); rfl) <;> (intro h; simp only [h]; try simp only [decide_eq_true_eq, decide_eq_false_iff_not, Bool.not_eq_true', Bool.not_eq_false', Bool.not_true, Bool.not_false] at h; try exact absurd trivial h))
             | (with_reducible apply go_ret)
             | (with_reducible apply go_skipc))
           | (with_reducible apply go_kseq)
           | (with_reducible apply go_kseq_ret)
           | ((with_reducible apply end_bool); rfl)
           | (with_reducible rfl)
    all_goals first
      | (exfalso; omega)
      | rfl
      | trace_state
  have h1 := c_CheckTriangles l t (by omega) (by omega)
  have h2 := c_rCheckTriangles l t (by omega) (by omega)
  generalize chkTE l t = e at *
  refine contract_of mix Try.func8 rfl rfl (by rw [Try.ntmps8]; exact Nat.le_of_ble_eq_true rfl) ?_; rw [Try.results8, Try.ntmps8]; simp only [argsE, Nat.reduceAdd]
  repeat' first
           | (with_reducible apply go_op)
           | (with_reducible apply go_next)
           | ((with_reducible (show evOp _ _ _ _ _ _)); first
             | ((with_reducible (show evOp _ (.move _) _ _ _ _)) ; first | ((with_reducible apply go_mv_bool); rfl; rfl) | ((with_reducible apply go_mv_sl); rfl; rfl))
             | ((with_reducible apply go_as))
             | (((with_reducible apply go_cmp); rfl; rfl; rfl; rfl))
             | ((with_reducible (show evOp _ (.call _) _ _ _ _)) ; first | ((with_reducible apply go_len); rfl; rfl) | ((with_reducible apply go_fn_bool); rfl; (exact c_awake); rfl) | ((with_reducible apply go_fn_int); rfl; (exact h1); rfl) | ((with_reducible apply go_fn_int); rfl; (exact h2); rfl))
             | (((with_reducible apply go_not); rfl; rfl))
             | (((with_reducible apply go_pick); rfl; rfl; rfl)))
           | ((with_reducible (show evOps _ _ _ _ _ _)); first
             | (with_reducible apply go_nil)
             | ((with_reducible apply go_run); rfl; rfl)
             | ((with_reducible apply go_pass); rfl; rfl; rfl)
             | (((with_reducible apply go_guard); rfl) <;> (intro h; simp only [h, Bool.not_true, Bool.not_false]; (try with_reducible (refine ⟨rfl, ?_⟩)); try simp only [decide_eq_true_eq, decide_eq_false_iff_not, Bool.not_eq_true', Bool.not_eq_false', Bool.not_true, Bool.not_false] at h; try exact absurd trivial h)))
           | ((with_reducible (show evG _ _ _ _ _)); first
             | (with_reducible apply go_seq)
             | (with_reducible apply go_region)
             | ((with_reducible apply go_cond_t); rfl; rfl)
             | ((with_reducible apply go_cond_f); rfl; rfl)
             | (((with_reducible apply go_cond); rfl) <;> (intro h; simp only [h]; try simp only [decide_eq_true_eq, decide_eq_false_iff_not, Bool.not_eq_true', Bool.not_eq_false', Bool.not_true, Bool.not_false] at h; try exact absurd trivial h))
             | (with_reducible apply go_ret)
             | (with_reducible apply go_skipc))
           | (with_reducible apply go_kseq)
           | (with_reducible apply go_kseq_ret)
           | ((with_reducible apply end_bool); rfl)
           | (with_reducible rfl)
  all_goals first
    | (exfalso; omega)
    | rfl
    | (simp; done)
    | trace_state
theorem c_law7 (l : List Pt) (hl : l.length ≤ 9223372036854775807) : Contract Try.prog 7 [.sl (l.map encPt)] (.ret (.bool true)) := by
  by_cases h9 : l.length ≤ 9 ∨ (64 < l.length ∧ l.length ≤ 70)
  rotate_left
  · refine contract_of mix Try.func7 rfl rfl (by rw [Try.ntmps7]; exact Nat.le_of_ble_eq_true rfl) ?_; rw [Try.results7, Try.ntmps7]; simp only [argsE, Nat.reduceAdd]
    repeat' first
           | (with_reducible apply go_op)
           | (with_reducible apply go_next)
           | ((with_reducible (show evOp _ _ _ _ _ _)); first
             | ((with_reducible (show evOp _ (.move _) _ _ _ _)) ; first | ((with_reducible apply go_mv_bool); rfl; rfl) | ((with_reducible apply go_mv_sl); rfl; rfl))
             | ((with_reducible apply go_as))
             | (((with_reducible apply go_cmp); rfl; rfl; rfl; rfl))
             | ((with_reducible (show evOp _ (.call _) _ _ _ _)) ; first | ((with_reducible apply go_len); rfl; rfl) | ((with_reducible apply go_fn_bool); rfl; (exact c_awake); rfl))
             | (((with_reducible apply go_not); rfl; rfl))
             | (((with_reducible apply go_pick); rfl; rfl; rfl)))
           | ((with_reducible (show evOps _ _ _ _ _ _)); first
             | (with_reducible apply go_nil)
             | ((with_reducible apply go_run); rfl; rfl)
             | ((with_reducible apply go_pass); rfl; rfl; rfl)
             | (((with_reducible apply go_guard); rfl) <;> (intro h; simp only [h, Bool.not_true, Bool.not_false]; (try with_reducible (refine ⟨rfl, ?_⟩)); try simp only [decide_eq_true_eq, decide_eq_false_iff_not, Bool.not_eq_true', Bool.not_eq_false', Bool.not_true, Bool.not_false] at h; try exact absurd trivial h)))
           | ((with_reducible (show evG _ _ _ _ _)); first
             | (with_reducible apply go_seq)
             | (with_reducible apply go_region)
             | ((with_reducible apply go_cond_t); rfl; rfl)
             | ((with_reducible apply go_cond_f); rfl; rfl)
             | (((with_reducible apply go_cond); rfl) <;> (intro h; simp only [h]; try simp only [decide_eq_true_eq, decide_eq_false_iff_not, Bool.not_eq_true', Bool.not_eq_false', Bool.not_true, Bool.not_false] at h; try exact absurd trivial h))
             | (with_reducible apply go_ret)
             | (with_reducible apply go_skipc))
           | (with_reducible apply go_kseq)
           | (with_reducible apply go_kseq_ret)
           | ((with_reducible apply end_bool); rfl)
           | (with_reducible rfl)
    all_goals first
      | (exfalso; omega)
      | rfl
      | trace_state
  have hbig : 64 < l.length → patchE l ≠ 0 := fun h => by
    have e : chkE l = 8 := if_pos h
    have : patchE l = 8 := by unfold patchE; rw [e]; rfl
    omega
  have h1 := c_Triangulate l (by
    by_cases h : l.length ≤ 9
    · exact .inl h
    · exact .inr (hbig (by omega))) (by omega)
  have h2 := c_CheckPatch l (by omega)
  by_cases hz : patchE l = 0
  rotate_left
  · rw [show triX l = [] from if_neg hz] at h1
    generalize patchE l = e at *
    refine contract_of mix Try.func7 rfl rfl (by rw [Try.ntmps7]; exact Nat.le_of_ble_eq_true rfl) ?_; rw [Try.results7, Try.ntmps7]; simp only [argsE, Nat.reduceAdd]
    repeat' first
           | (with_reducible apply go_op)
           | (with_reducible apply go_next)
           | ((with_reducible (show evOp _ _ _ _ _ _)); first
             | ((with_reducible (show evOp _ (.move _) _ _ _ _)) ; first | ((with_reducible apply go_mv_int); rfl; rfl) | ((with_reducible apply go_mv_bool); rfl; rfl) | ((with_reducible apply go_mv_sl); rfl; rfl) | ((with_reducible apply go_mv_os); rfl; rfl) | ((with_reducible apply go_mv_tup); rfl; rfl))
             | ((with_reducible apply go_as))
             | (((with_reducible apply go_cmp); rfl; rfl; rfl; rfl))
             | ((with_reducible (show evOp _ (.call _) _ _ _ _)) ; first | ((with_reducible apply go_len); rfl; rfl) | ((with_reducible apply go_len_own); rfl; rfl; rfl) | ((with_reducible apply go_fn_bool); rfl; (exact c_awake); rfl) | ((with_reducible apply go_fn_fr2); rfl; (exact h1); (exact scalTri); rfl; rfl) | ((with_reducible apply go_fn_int); rfl; (exact h2); rfl))
             | (((with_reducible apply go_not); rfl; rfl))
             | (((with_reducible apply go_extract); rfl; rfl))
             | (((with_reducible apply go_pick); rfl; rfl; rfl)))
           | ((with_reducible (show evOps _ _ _ _ _ _)); first
             | (with_reducible apply go_nil)
             | ((with_reducible apply go_run); rfl; rfl)
             | ((with_reducible apply go_pass); rfl; rfl; rfl)
             | (((with_reducible apply go_guard); rfl) <;> (intro h; simp only [h, Bool.not_true, Bool.not_false]; (try with_reducible (refine ⟨rfl, ?_⟩)); try simp only [decide_eq_true_eq, decide_eq_false_iff_not, Bool.not_eq_true', Bool.not_eq_false', Bool.not_true, Bool.not_false] at h; try exact absurd trivial h)))
           | ((with_reducible (show evG _ _ _ _ _)); first
             | (with_reducible apply go_seq)
             | (with_reducible apply go_region)
             | ((with_reducible apply go_cond_t); rfl; rfl)
             | ((with_reducible apply go_cond_f); rfl; rfl)
             | (((with_reducible apply go_cond); rfl) <;> (intro h; simp only [h]; try simp only [decide_eq_true_eq, decide_eq_false_iff_not, Bool.not_eq_true', Bool.not_eq_false', Bool.not_true, Bool.not_false] at h; try exact absurd trivial h))
             | (with_reducible apply go_ret)
             | (with_reducible apply go_skipc))
           | (with_reducible apply go_kseq)
           | (with_reducible apply go_kseq_ret)
           | ((with_reducible apply end_bool); rfl)
           | (with_reducible rfl)
    all_goals first
      | (exfalso; omega)
      | rfl
      | (simp; done)
      | trace_state
  have hl9 : l.length ≤ 9 := by
    apply Classical.byContradiction; intro h
    exact hbig (by omega) hz
  obtain ⟨hc, hn, hf⟩ := patch_ok hz
  obtain ⟨-, hok⟩ := chk_ok hc
  have h3 := c_rTriangulate l hl9 hok hf hn
  rw [ref_map, ← show triX l = (refL l l.length).map Subtype.val from if_pos hz] at h3
  have hxl := triX_len hl9
  have h4 := c_Same (triX l) (triX l) (by omega) (by omega)
  have h5 := c_CheckTriangles l (triX l) hl9 (by omega)
  rw [show chkTE l (triX l) = 0 by unfold chkTE; rw [if_neg (by omega), if_pos rfl]] at h5
  rw [show decide (triX l = triX l) = true by simp] at h4
  rw [hz] at h1 h2
  generalize triX l = T at *
  refine contract_of mix Try.func7 rfl rfl (by rw [Try.ntmps7]; exact Nat.le_of_ble_eq_true rfl) ?_; rw [Try.results7, Try.ntmps7]; simp only [argsE, Nat.reduceAdd]
  repeat' first
           | (with_reducible apply go_op)
           | (with_reducible apply go_next)
           | ((with_reducible (show evOp _ _ _ _ _ _)); first
             | ((with_reducible (show evOp _ (.move _) _ _ _ _)) ; first | ((with_reducible apply go_mv_int); rfl; rfl) | ((with_reducible apply go_mv_bool); rfl; rfl) | ((with_reducible apply go_mv_sl); rfl; rfl) | ((with_reducible apply go_mv_os); rfl; rfl) | ((with_reducible apply go_mv_tup); rfl; rfl))
             | ((with_reducible apply go_as))
             | (((with_reducible apply go_cmp); rfl; rfl; rfl; rfl))
             | ((with_reducible (show evOp _ (.call _) _ _ _ _)) ; first | ((with_reducible apply go_len); rfl; rfl) | ((with_reducible apply go_fn_bool); rfl; (exact c_awake); rfl) | ((with_reducible apply go_fn_fr2); rfl; (exact h1); (exact scalTri); rfl; rfl) | ((with_reducible apply go_fn_int); rfl; (exact h2); rfl) | ((with_reducible apply go_fn_fr); rfl; (exact h3); (exact scalTri); rfl) | ((with_reducible apply go_fn_bool); (exact pur2_own rfl rfl rfl rfl (by simp) (by simp)); (exact h4); rfl) | ((with_reducible apply go_fn_int); (exact purL_os2 rfl rfl (by simp) rfl); (exact h5); rfl))
             | (((with_reducible apply go_not); rfl; rfl))
             | (((with_reducible apply go_extract); rfl; rfl))
             | (((with_reducible apply go_pick); rfl; rfl; rfl)))
           | ((with_reducible (show evOps _ _ _ _ _ _)); first
             | (with_reducible apply go_nil)
             | ((with_reducible apply go_run); rfl; rfl)
             | ((with_reducible apply go_pass); rfl; rfl; rfl)
             | (((with_reducible apply go_guard); rfl) <;> (intro h; simp only [h, Bool.not_true, Bool.not_false]; (try with_reducible (refine ⟨rfl, ?_⟩)); try simp only [decide_eq_true_eq, decide_eq_false_iff_not, Bool.not_eq_true', Bool.not_eq_false', Bool.not_true, Bool.not_false] at h; try exact absurd trivial h)))
           | ((with_reducible (show evG _ _ _ _ _)); first
             | (with_reducible apply go_seq)
             | (with_reducible apply go_region)
             | ((with_reducible apply go_cond_t); rfl; rfl)
             | ((with_reducible apply go_cond_f); rfl; rfl)
             | (((with_reducible apply go_cond); rfl) <;> (intro h; simp only [h]; try simp only [decide_eq_true_eq, decide_eq_false_iff_not, Bool.not_eq_true', Bool.not_eq_false', Bool.not_true, Bool.not_false] at h; try exact absurd trivial h))
             | (with_reducible apply go_ret)
             | (with_reducible apply go_skipc))
           | (with_reducible apply go_kseq)
           | (with_reducible apply go_kseq_ret)
           | ((with_reducible apply end_bool); rfl)
           | (with_reducible rfl)
  all_goals first
    | (exfalso; omega)
    | rfl
    | (simp; done)
    | trace_state
end Go.Pv.Geo

open Go Go.Proofs Go.Pv
set_option maxHeartbeats 1000000
set_option maxRecDepth 100000
set_option linter.unusedVariables false
namespace Go.Pv.Geo
theorem own : ownKnob Try.prog.godebug = none := by kernel_rfl
theorem laidOut : laidOutB Try.prog = true := by kernel_rfl
theorem rInt : Reads Try.prog 3 I64 (fun n => [.int .i64 n]) := reads_i64 Try.underlying3 (by kernel_rfl)
theorem rPt : Reads Try.prog 23 (fun p : Pt => I64 p.x ∧ I64 p.y) encPt :=
  (reads_struct Try.underlying23 (by kernel_rfl) (readsF_cons (k := 1) rInt (by kernel_rfl) rfl (readsF_cons (k := 1) rInt (by kernel_rfl) rfl readsF_nil))).map
    (fun x => ⟨x.1, x.2.1⟩) (fun _ _ => rfl) (fun _ h => ⟨h.1, h.2.1⟩) fun _ _ => by kernel_rfl
theorem rPts : Reads Try.prog 31 (fun l : List Pt => l.length ≤ maxLen ∧ ∀ a ∈ l, I64 a.x ∧ I64 a.y) (fun l => [.sl (l.map encPt)]) := reads_slice Try.underlying31 rPt (k := 2) (by kernel_rfl) (by decide) (by kernel_rfl)
theorem rTri : Reads Try.prog 47 (fun t : Tri => I64 t.a ∧ I64 t.b ∧ I64 t.c) encTri :=
  (reads_struct Try.underlying47 (by kernel_rfl) (readsF_cons (k := 1) rInt (by kernel_rfl) rfl (readsF_cons (k := 1) rInt (by kernel_rfl) rfl (readsF_cons (k := 1) rInt (by kernel_rfl) rfl readsF_nil)))).map
    (fun x => ⟨x.1, x.2.1, x.2.2.1⟩) (fun _ _ => rfl) (fun _ h => ⟨h.1, h.2.1, h.2.2.1⟩) fun _ _ => by kernel_rfl
theorem rTris : Reads Try.prog 41 (fun l : List Tri => l.length ≤ maxLen ∧ ∀ t ∈ l, I64 t.a ∧ I64 t.b ∧ I64 t.c) (fun l => [.sl (l.map encTri)]) := reads_slice Try.underlying41 rTri (k := 3) (by kernel_rfl) (by decide) (by kernel_rfl)
theorem rP4 : Reads Try.prog 24 (fun x : Pt × Pt × Pt × Pt => (I64 x.1.x ∧ I64 x.1.y) ∧ (I64 x.2.1.x ∧ I64 x.2.1.y) ∧ (I64 x.2.2.1.x ∧ I64 x.2.2.1.y) ∧ I64 x.2.2.2.x ∧ I64 x.2.2.2.y) (fun x => encPt x.1 ++ encPt x.2.1 ++ encPt x.2.2.1 ++ encPt x.2.2.2) :=
  (reads_array (n := 4) (k := 2) Try.underlying24 rPt (by kernel_rfl) (by kernel_rfl)).map (fun l => (l.getD 0 ⟨0, 0⟩, l.getD 1 ⟨0, 0⟩, l.getD 2 ⟨0, 0⟩, l.getD 3 ⟨0, 0⟩))
    (fun l h => by match l, h.1 with | [a, b, c, d], _ => rfl) (fun l h => by match l, h with | [a, b, c, d], h => exact ⟨h.2 a (by simp), h.2 b (by simp), h.2 c (by simp), h.2 d (by simp)⟩) fun _ _ => by kernel_rfl
theorem aP4 : ReadsA Try.prog [24] (fun x : Pt × Pt × Pt × Pt => (I64 x.1.x ∧ I64 x.1.y) ∧ (I64 x.2.1.x ∧ I64 x.2.1.y) ∧ (I64 x.2.2.1.x ∧ I64 x.2.2.1.y) ∧ I64 x.2.2.2.x ∧ I64 x.2.2.2.y) (fun x => [.agg (encPt x.1 ++ encPt x.2.1 ++ encPt x.2.2.1 ++ encPt x.2.2.2)]) :=
  (readsA_cons Try.underlying24 rP4 (g := fun x => .agg (encPt x.1 ++ encPt x.2.1 ++ encPt x.2.2.1 ++ encPt x.2.2.2)) (.inr ⟨rfl, fun _ => rfl⟩) readsA_nil).map (fun x => x.1) (fun _ _ => rfl) (fun _ h => h.1)
theorem aLocates : ReadsA Try.prog [31, 41, 23] (fun x : List Pt × List Tri × Pt => True) (fun x => [.sl (x.1.map encPt), .sl (x.2.1.map encTri), .agg (encPt x.2.2)]) :=
  (readsA_cons Try.underlying31 rPts (g := fun l => .sl (l.map encPt)) (.inl ⟨rfl, fun _ => rfl⟩) (readsA_cons Try.underlying41 rTris (g := fun l => .sl (l.map encTri)) (.inl ⟨rfl, fun _ => rfl⟩)
    (readsA_cons Try.underlying23 rPt (g := fun p => .agg (encPt p)) (.inr ⟨rfl, fun _ => rfl⟩) readsA_nil))).map (fun x => (x.1, x.2.1, x.2.2.1)) (fun _ _ => rfl) (fun _ _ => trivial)
theorem aPoly : ReadsA Try.prog [31, 5] (fun x : List Pt × Int => 0 ≤ x.2 ∧ x.2 ≤ 255) (fun x => [.sl (x.1.map encPt), .int .u8 x.2]) :=
  (readsA_cons Try.underlying31 rPts (g := fun l => .sl (l.map encPt)) (.inl ⟨rfl, fun _ => rfl⟩) (readsA_cons Try.underlying5 (reads_int (k := .u8) Try.underlying5 (by kernel_rfl)) (g := fun n => .int .u8 n) (.inl ⟨rfl, fun _ => rfl⟩) readsA_nil)).map
    (fun x => (x.1, x.2.1)) (fun _ _ => rfl) (fun _ h => by have := h.2.1; simp [Lit.wf] at this; exact this)
end Go.Pv.Geo
namespace Go.Pv.Geo
theorem aTouches : ReadsA Try.prog [31, 23, 23] (fun x : List Pt × Pt × Pt => True) (fun x => [.sl (x.1.map encPt), .agg (encPt x.2.1), .agg (encPt x.2.2)]) :=
  (readsA_cons Try.underlying31 rPts (g := fun l => .sl (l.map encPt)) (.inl ⟨rfl, fun _ => rfl⟩) (readsA_cons Try.underlying23 rPt (g := fun p => .agg (encPt p)) (.inr ⟨rfl, fun _ => rfl⟩)
    (readsA_cons Try.underlying23 rPt (g := fun p => .agg (encPt p)) (.inr ⟨rfl, fun _ => rfl⟩) readsA_nil))).map (fun x => (x.1, x.2.1, x.2.2.1)) (fun _ _ => rfl) (fun _ _ => trivial)
end Go.Pv.Geo
namespace Go.Pv.Geo
theorem aP3 : ReadsA Try.prog [23, 23, 23] (fun x : Pt × Pt × Pt => True) (fun x => [.agg (encPt x.1), .agg (encPt x.2.1), .agg (encPt x.2.2)]) :=
  (readsA_cons Try.underlying23 rPt (g := fun p => .agg (encPt p)) (.inr ⟨rfl, fun _ => rfl⟩) (readsA_cons Try.underlying23 rPt (g := fun p => .agg (encPt p)) (.inr ⟨rfl, fun _ => rfl⟩)
    (readsA_cons Try.underlying23 rPt (g := fun p => .agg (encPt p)) (.inr ⟨rfl, fun _ => rfl⟩) readsA_nil))).map (fun x => (x.1, x.2.1, x.2.2.1)) (fun _ _ => rfl) (fun _ _ => trivial)
theorem aNear : ReadsA Try.prog [31, 23, 3] (fun x : List Pt × Pt × Int => True) (fun x => [.sl (x.1.map encPt), .agg (encPt x.2.1), .int .i64 x.2.2]) :=
  (readsA_cons Try.underlying31 rPts (g := fun l => .sl (l.map encPt)) (.inl ⟨rfl, fun _ => rfl⟩) (readsA_cons Try.underlying23 rPt (g := fun p => .agg (encPt p)) (.inr ⟨rfl, fun _ => rfl⟩)
    (readsA_cons Try.underlying3 rInt (g := fun n => .int .i64 n) (.inl ⟨rfl, fun _ => rfl⟩) readsA_nil))).map (fun x => (x.1, x.2.1, x.2.2.1)) (fun _ _ => rfl) (fun _ _ => trivial)
end Go.Pv.Geo

open Go Go.Proofs Go.Pv
set_option maxHeartbeats 1000000
set_option maxRecDepth 100000
set_option linter.unusedVariables false
namespace Go.Pv.Geo
theorem aPts : ReadsA Try.prog [31] (fun x : List Pt => x.length ≤ maxLen) (fun x => [.sl (x.map encPt)]) :=
  (readsA_cons Try.underlying31 rPts (g := fun l => .sl (l.map encPt)) (.inl ⟨rfl, fun _ => rfl⟩) readsA_nil).map (fun x => x.1) (fun _ _ => rfl) (fun _ h => h.1.1)
end Go.Pv.Geo
namespace Go.Pv.Geo
theorem aPtsTris : ReadsA Try.prog [31, 41] (fun x : List Pt × List Tri => x.1.length ≤ maxLen ∧ x.2.length ≤ maxLen) (fun x => [.sl (x.1.map encPt), .sl (x.2.map encTri)]) :=
  (readsA_cons Try.underlying31 rPts (g := fun l => .sl (l.map encPt)) (.inl ⟨rfl, fun _ => rfl⟩) (readsA_cons Try.underlying41 rTris (g := fun l => .sl (l.map encTri)) (.inl ⟨rfl, fun _ => rfl⟩) readsA_nil)).map (fun x => (x.1, x.2.1)) (fun _ _ => rfl) (fun _ h => ⟨h.1.1, h.2.1.1⟩)
end Go.Pv.Geo

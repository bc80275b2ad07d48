import Derived.Test.YtbojgmhpmcnfjaaProg
import Derived.Test.YtbojgmhpmcnfjaaGN
import Derived.Test.YtbojgmhpmcnfjaaGK
import Derived.Test.YtbojgmhpmcnfjaaGW
import Derived.KernelRfl
/- Part of the proofs over Ytbojgmhpmcnfjaa: H23. -/
set_option linter.unusedVariables false
set_option linter.unusedSimpArgs false
set_option linter.unnecessarySimpa false
open Go Go.Proofs Go.Pv
set_option maxHeartbeats 4000000
set_option maxRecDepth 100000
set_option linter.unusedSimpArgs false
set_option linter.unusedVariables false
namespace Go.Pv.Geo
theorem sq_sym (a b : Pt) : sqE b a = sqE a b := by simp only [sqE, dotE]; grind
noncomputable def nearB (a b p : Pt) (d : Int) : Bool := decide (sqE a p ≤ d * d ∨ sqE b p ≤ d * d ∨ 0 ≤ dotE a b p ∧ dotE a b p ≤ sqE a b ∧ offE a b p ≤ d)
noncomputable def nearAny (l : List Pt) (p : Pt) (d : Int) : Bool := (List.range l.length).any fun i => nearB (cornerP l i) (cornerP l (i + 1)) p d
theorem nearAny_yes {l : List Pt} {p : Pt} {d : Int} {i : Nat} (hi : i < l.length) (h : nearB (cornerP l i) (cornerP l (i + 1)) p d = true) : nearAny l p d = true := List.any_eq_true.2 ⟨i, List.mem_range.2 hi, h⟩
theorem nearAny_no {l : List Pt} {p : Pt} {d : Int} (h : ∀ i, i < l.length → nearB (cornerP l i) (cornerP l (i + 1)) p d = false) : nearAny l p d = false := by
  rw [nearAny, List.any_eq_false]
  intro i hi
  rw [h i (List.mem_range.1 hi)]; simp
noncomputable def nearPoly (l : List Pt) (p : Pt) (d : Int) : Bool := decide (0 ≤ insE l p) || nearAny l p d
noncomputable def nearX (l : List Pt) (p : Pt) (d : Int) : Bool × Int :=
  if (insX l p).2 ≠ 0 then (false, (insX l p).2) else if d < 0 ∨ 1000000 < d then (false, 2) else (nearPoly l p d, 0)
theorem insX_ok {l : List Pt} {p : Pt} (h : (insX l p).2 = 0) : polyE l = 0 ∧ ptOK p = true ∧ insX l p = (insE l p, 0) := by
  unfold insX at h ⊢
  (repeat' split at h) <;> first | (simp at h; done) | skip
  · rename_i h1; exact (h1 h).elim
  · rename_i h1 h2
    have h1 : polyE l = 0 := by omega
    refine ⟨h1, (Bool.eq_false_or_eq_true _).resolve_right h2, ?_⟩
    rw [if_neg (by omega), if_neg h2]
theorem edge_ne {l : List Pt} (hz : polyE l = 0) (i : Nat) : eqP (cornerP l i) (cornerP l (i + 1)) = false := by
  obtain ⟨⟨h3, h40⟩, hok, hs⟩ := poly_ok hz
  have := turn_any (by omega) hs i
  simp only [turnBad, Bool.or_eq_false_iff] at this
  exact this.1.1
theorem dd_bd {d : Int} (h0 : 0 ≤ d) (h1 : d ≤ 1000000) : 0 ≤ d * d ∧ d * d ≤ 1000000000000 := ⟨Int.mul_nonneg h0 h0, by have := sq_mono h0 h1; omega⟩
theorem c_Near (l : List Pt) (p : Pt) (d : Int) : Contract Try.prog 69 [.sl (l.map encPt), .agg (encPt p), .int .i64 d] (.ret (.tup [.bool (nearX l p d).1, .int .i64 (nearX l p d).2])) := by
  have hI := c_Inside l p
  by_cases hz : (insX l p).2 = 0
  rotate_left
  · have e : nearX l p d = (false, (insX l p).2) := if_pos hz
    rw [e]
    refine contract_of mix Try.func69 rfl rfl (by rw [Try.ntmps69]; exact Nat.le_of_ble_eq_true rfl) ?_; rw [Try.results69, Try.ntmps69]; simp only [argsE, Nat.reduceAdd]
    repeat' first
           | (with_reducible apply go_op)
           | (with_reducible apply go_next)
           | ((with_reducible (show evOp _ _ _ _ _ _)); first
             | ((with_reducible (show evOp _ (.move _) _ _ _ _)) ; first | ((with_reducible apply go_mv_int); rfl; rfl) | ((with_reducible apply go_mv_bool); rfl; rfl) | ((with_reducible apply go_mv_sl); rfl; rfl) | ((with_reducible apply go_mv_tup); rfl; rfl))
             | ((with_reducible apply go_as))
             | (((with_reducible apply go_ld_agg); rfl; rfl; rfl; rfl))
             | (((with_reducible apply go_cmp); rfl; rfl; rfl; rfl))
             | ((with_reducible (show evOp _ (.call _) _ _ _ _)) ; first | ((with_reducible apply go_len); rfl; rfl) | ((with_reducible apply go_fn_plain); rfl; (exact hI); rfl; (exact Nat.le_of_ble_eq_true rfl); rfl))
             | (((with_reducible apply go_extract); rfl; rfl))
             | (((with_reducible apply go_pick); rfl; rfl; rfl))
             | (((with_reducible apply go_bx_agg); rfl; rfl; (exact Nat.le_of_ble_eq_true rfl); rfl; rfl)))
           | ((with_reducible (show evOps _ _ _ _ _ _)); first
             | (with_reducible apply go_nil)
             | ((with_reducible apply go_run); rfl; rfl)
             | ((with_reducible apply go_pass); rfl; rfl; rfl)
             | (((with_reducible apply go_guard); rfl) <;> (intro h; simp only [h, Bool.not_true, Bool.not_false]; (try with_reducible (refine ⟨rfl, ?_⟩)); try simp only [decide_eq_true_eq, decide_eq_false_iff_not, Bool.not_eq_true', Bool.not_eq_false', Bool.not_true, Bool.not_false] at h; try exact absurd trivial h)))
           | ((with_reducible (show evG _ _ _ _ _)); first
             | (with_reducible apply go_seq)
             | (with_reducible apply go_region)
             | ((with_reducible apply go_cond_t); rfl; rfl)
             | (((with_reducible apply go_cond); rfl) <;> (intro h; simp only [h]; try simp only [decide_eq_true_eq, decide_eq_false_iff_not, Bool.not_eq_true', Bool.not_eq_false', Bool.not_true, Bool.not_false] at h; try exact absurd trivial h))
             | (with_reducible apply go_ret)
             | (with_reducible apply go_skipc)
             | (with_reducible apply go_block))
           | (with_reducible apply go_kseq)
           | (with_reducible apply go_kseq_ret)
           | ((with_reducible apply end_t2); rfl; rfl; rfl; rfl)
    all_goals first | rfl | (exfalso; omega)
  obtain ⟨hpo, hp, he⟩ := insX_ok hz
  rw [he] at hI
  by_cases hd : d < 0 ∨ 1000000 < d
  · have e : nearX l p d = (false, 2) := by rw [nearX, if_neg (by omega), if_pos hd]
    rw [e]
    refine contract_of mix Try.func69 rfl rfl (by rw [Try.ntmps69]; exact Nat.le_of_ble_eq_true rfl) ?_; rw [Try.results69, Try.ntmps69]; simp only [argsE, Nat.reduceAdd]
    repeat' first
           | (with_reducible apply go_op)
           | (with_reducible apply go_next)
           | ((with_reducible (show evOp _ _ _ _ _ _)); first
             | ((with_reducible (show evOp _ (.move _) _ _ _ _)) ; first | ((with_reducible apply go_mv_int); rfl; rfl) | ((with_reducible apply go_mv_bool); rfl; rfl) | ((with_reducible apply go_mv_sl); rfl; rfl) | ((with_reducible apply go_mv_tup); rfl; rfl))
             | ((with_reducible apply go_as))
             | (((with_reducible apply go_ld_agg); rfl; rfl; rfl; rfl))
             | (((with_reducible apply go_cmp); rfl; rfl; rfl; rfl))
             | ((with_reducible (show evOp _ (.call _) _ _ _ _)) ; first | ((with_reducible apply go_len); rfl; rfl) | ((with_reducible apply go_fn_plain); rfl; (exact hI); rfl; (exact Nat.le_of_ble_eq_true rfl); rfl))
             | (((with_reducible apply go_extract); rfl; rfl))
             | (((with_reducible apply go_pick); rfl; rfl; rfl))
             | (((with_reducible apply go_bx_agg); rfl; rfl; (exact Nat.le_of_ble_eq_true rfl); rfl; rfl)))
           | ((with_reducible (show evOps _ _ _ _ _ _)); first
             | (with_reducible apply go_nil)
             | ((with_reducible apply go_run); rfl; rfl)
             | ((with_reducible apply go_pass); rfl; rfl; rfl)
             | (((with_reducible apply go_guard); rfl) <;> (intro h; simp only [h, Bool.not_true, Bool.not_false]; (try with_reducible (refine ⟨rfl, ?_⟩)); try simp only [decide_eq_true_eq, decide_eq_false_iff_not, Bool.not_eq_true', Bool.not_eq_false', Bool.not_true, Bool.not_false] at h; try exact absurd trivial h)))
           | ((with_reducible (show evG _ _ _ _ _)); first
             | (with_reducible apply go_seq)
             | (with_reducible apply go_region)
             | ((with_reducible apply go_cond_t); rfl; rfl)
             | ((with_reducible apply go_cond_f); rfl; rfl)
             | (((with_reducible apply go_cond); rfl) <;> (intro h; simp only [h]; try simp only [decide_eq_true_eq, decide_eq_false_iff_not, Bool.not_eq_true', Bool.not_eq_false', Bool.not_true, Bool.not_false] at h; try exact absurd trivial h))
             | (with_reducible apply go_ret)
             | (with_reducible apply go_skipc)
             | (with_reducible apply go_block))
           | (with_reducible apply go_kseq)
           | (with_reducible apply go_kseq_ret)
           | ((with_reducible apply end_t2); rfl; rfl; rfl; rfl)
    all_goals first | rfl | (exfalso; omega) | trace_state
  have e : nearX l p d = (nearPoly l p d, 0) := by rw [nearX, if_neg (by omega), if_neg hd]
  rw [e]
  have hdd := dd_bd (d := d) (by omega) (by omega)
  obtain ⟨⟨h3, h40⟩, hok, hs⟩ := poly_ok hpo
  have h0 : 0 < l.length := by omega
  by_cases hin : 0 ≤ insE l p
  · have en : nearPoly l p d = true := by rw [nearPoly, decide_eq_true hin, Bool.true_or]
    rw [en]
    refine contract_of mix Try.func69 rfl rfl (by rw [Try.ntmps69]; exact Nat.le_of_ble_eq_true rfl) ?_; rw [Try.results69, Try.ntmps69]; simp only [argsE, Nat.reduceAdd]
    repeat' first
           | (with_reducible apply go_op)
           | (with_reducible apply go_next)
           | ((with_reducible (show evOp _ _ _ _ _ _)); first
             | ((with_reducible (show evOp _ (.move _) _ _ _ _)) ; first | ((with_reducible apply go_mv_int); rfl; rfl) | ((with_reducible apply go_mv_bool); rfl; rfl) | ((with_reducible apply go_mv_sl); rfl; rfl) | ((with_reducible apply go_mv_tup); rfl; rfl))
             | ((with_reducible apply go_as))
             | (((with_reducible apply go_ld_agg); rfl; rfl; rfl; rfl))
             | (((with_reducible apply go_cmp); rfl; rfl; rfl; rfl))
             | ((with_reducible (show evOp _ (.call _) _ _ _ _)) ; first | ((with_reducible apply go_len); rfl; rfl) | ((with_reducible apply go_fn_plain); rfl; (exact hI); rfl; (exact Nat.le_of_ble_eq_true rfl); rfl))
             | (((with_reducible apply go_extract); rfl; rfl))
             | (((with_reducible apply go_pick); rfl; rfl; rfl))
             | (((with_reducible apply go_bx_agg); rfl; rfl; (exact Nat.le_of_ble_eq_true rfl); rfl; rfl)))
           | ((with_reducible (show evOps _ _ _ _ _ _)); first
             | (with_reducible apply go_nil)
             | ((with_reducible apply go_run); rfl; rfl)
             | ((with_reducible apply go_pass); rfl; rfl; rfl)
             | (((with_reducible apply go_guard); rfl) <;> (intro h; simp only [h, Bool.not_true, Bool.not_false]; (try with_reducible (refine ⟨rfl, ?_⟩)); try simp only [decide_eq_true_eq, decide_eq_false_iff_not, Bool.not_eq_true', Bool.not_eq_false', Bool.not_true, Bool.not_false] at h; try exact absurd trivial h)))
           | ((with_reducible (show evG _ _ _ _ _)); first
             | (with_reducible apply go_seq)
             | (with_reducible apply go_region)
             | ((with_reducible apply go_cond_t); rfl; rfl)
             | ((with_reducible apply go_cond_f); rfl; rfl)
             | (((with_reducible apply go_cond); rfl) <;> (intro h; simp only [h]; try simp only [decide_eq_true_eq, decide_eq_false_iff_not, Bool.not_eq_true', Bool.not_eq_false', Bool.not_true, Bool.not_false] at h; try exact absurd trivial h))
             | (with_reducible apply go_ret)
             | (with_reducible apply go_skipc)
             | (with_reducible apply go_block))
           | (with_reducible apply go_kseq)
           | (with_reducible apply go_kseq_ret)
           | ((with_reducible apply end_t2); rfl; rfl; rfl; rfl)
    all_goals first | rfl | (exfalso; omega) | trace_state
  have en : nearPoly l p d = nearAny l p d := by rw [nearPoly, decide_eq_false hin, Bool.false_or]
  rw [en]
  refine contract_of mix Try.func69 rfl rfl (by rw [Try.ntmps69]; exact Nat.le_of_ble_eq_true rfl) ?_; rw [Try.results69, Try.ntmps69]; simp only [argsE, Nat.reduceAdd]
  repeat' first
           | (with_reducible apply go_op)
           | (with_reducible apply go_next)
           | ((with_reducible (show evOp _ _ _ _ _ _)); first
             | ((with_reducible (show evOp _ (.move _) _ _ _ _)) ; first | ((with_reducible apply go_mv_int); rfl; rfl) | ((with_reducible apply go_mv_bool); rfl; rfl) | ((with_reducible apply go_mv_sl); rfl; rfl) | ((with_reducible apply go_mv_tup); rfl; rfl))
             | ((with_reducible apply go_as))
             | (((with_reducible apply go_ld_agg); rfl; rfl; rfl; rfl))
             | (((with_reducible apply go_cmp); rfl; rfl; rfl; rfl))
             | ((with_reducible (show evOp _ (.call _) _ _ _ _)) ; first | ((with_reducible apply go_len); rfl; rfl) | ((with_reducible apply go_fn_plain); rfl; (exact hI); rfl; (exact Nat.le_of_ble_eq_true rfl); rfl))
             | (((with_reducible apply go_extract); rfl; rfl))
             | (((with_reducible apply go_pick); rfl; rfl; rfl))
             | (((with_reducible apply go_bx_agg); rfl; rfl; (exact Nat.le_of_ble_eq_true rfl); rfl; rfl)))
           | ((with_reducible (show evOps _ _ _ _ _ _)); first
             | (with_reducible apply go_nil)
             | ((with_reducible apply go_run); rfl; rfl)
             | ((with_reducible apply go_pass); rfl; rfl; rfl)
             | (((with_reducible apply go_guard); rfl) <;> (intro h; simp only [h, Bool.not_true, Bool.not_false]; (try with_reducible (refine ⟨rfl, ?_⟩)); try simp only [decide_eq_true_eq, decide_eq_false_iff_not, Bool.not_eq_true', Bool.not_eq_false', Bool.not_true, Bool.not_false] at h; try exact absurd trivial h)))
           | ((with_reducible (show evG _ _ _ _ _)); first
             | (with_reducible apply go_seq)
             | (with_reducible apply go_region)
             | ((with_reducible apply go_cond_t); rfl; rfl)
             | ((with_reducible apply go_cond_f); rfl; rfl)
             | (((with_reducible apply go_cond); rfl) <;> (intro h; simp only [h]; try simp only [decide_eq_true_eq, decide_eq_false_iff_not, Bool.not_eq_true', Bool.not_eq_false', Bool.not_true, Bool.not_false] at h; try exact absurd trivial h))
             | (with_reducible apply go_ret)
             | (with_reducible apply go_skipc)
             | (with_reducible apply go_block))
           | (with_reducible apply go_kseq)
           | (with_reducible apply go_kseq_ret)
           | ((with_reducible apply end_t2); rfl; rfl; rfl; rfl)
  all_goals try (exfalso; omega)
  refine go_count l.length (fun i => ⟨[(33, .int .i64 i), (32, .int .i64 l.length), (31, .sl (l.map encPt)), (4, .op 0 0 0), (2, .int .i64 d), (0, .sl (l.map encPt))], [(0, ⟨2, true, [encPt p]⟩)], 32, 85⟩) (fun i => ∀ j, j < i → nearB (cornerP l j) (cornerP l (j + 1)) p d = false)
    (entails_eq (nx := 32) (k := 0) (ns := []) (ks := [33, 32, 31, 4, 2, 0]) [(0, 0)] rfl (by simp) (by kernel_rfl)) (by omega) ?_
  intro i hi hC
  by_cases h2 : i < l.length
  · have ec := cornerP_lt h2
    have hne := edge_ne hpo i
    have oa : ptOK l[i] = true := hok _ (List.getElem_mem h2)
    have ob := hok _ (cornerP_mem h0 (i + 1))
    have k1 : Contract Try.prog 89 [.sl (l.map encPt), .int .i64 ((i : Int) + 1)] (.ret (.agg (encPt (cornerP l (i + 1))))) := c_corner l h0 (by omega) (i + 1)
    have hyes := fun h => nearAny_yes (l := l) (p := p) (d := d) h2 h
    have hno : nearB (cornerP l i) (cornerP l (i + 1)) p d = false → ∀ j, j < i + 1 → nearB (cornerP l j) (cornerP l (j + 1)) p d = false := fun h j hj => by
      rcases Nat.lt_succ_iff_lt_or_eq.1 hj with h' | rfl
      · exact hC j h'
      · exact h
    rw [ec] at hne hyes hno
    have d1 := c_dot l[i] (cornerP l (i + 1)) p oa ob hp
    have d2 : Contract Try.prog 100 [.agg (encPt l[i]), .agg (encPt p), .agg (encPt p)] (.ret (.int .i64 (sqE l[i] p))) := c_dot l[i] p p oa hp hp
    have d3 : Contract Try.prog 100 [.agg (encPt (cornerP l (i + 1))), .agg (encPt p), .agg (encPt p)] (.ret (.int .i64 (sqE (cornerP l (i + 1)) p))) := c_dot _ p p ob hp hp
    have d4 : Contract Try.prog 100 [.agg (encPt l[i]), .agg (encPt (cornerP l (i + 1))), .agg (encPt (cornerP l (i + 1)))] (.ret (.int .i64 (sqE l[i] (cornerP l (i + 1))))) := c_dot _ _ _ oa ob ob
    have d5 := c_offset l[i] (cornerP l (i + 1)) p oa ob hp hne
    generalize cornerP l (i + 1) = b at *
    unfold nearB at hyes hno
    repeat' first
           | (with_reducible apply go_op)
           | (with_reducible apply go_next)
           | ((with_reducible (show evOp _ _ _ _ _ _)); first
             | ((with_reducible (show evOp _ (.move _) _ _ _ _)) ; first | ((with_reducible apply go_mv_int); rfl; rfl) | ((with_reducible apply go_mv_bool); rfl; rfl) | ((with_reducible apply go_mv_sl); rfl; rfl))
             | ((with_reducible apply go_as))
             | ((with_reducible (show evOp _ (.load _ _) _ _ _ _)) ; first | ((with_reducible apply go_ld_ptr); rfl; rfl; rfl) | ((with_reducible apply go_ld_agg); rfl; rfl; rfl; rfl))
             | (((with_reducible apply go_index_nat); rfl; rfl; (with_reducible rfl); (intro; rfl); rfl; omega; (intro hlt)))
             | ((with_reducible (show evOp _ (.binOp _ _ _ _ _) _ _ _ _)) ; first | ((with_reducible apply go_cmp); rfl; rfl; rfl; rfl) | ((with_reducible apply go_add); rfl; rfl; rfl; omega) | ((with_reducible apply go_mul); rfl; rfl; rfl; omega))
             | ((with_reducible (show evOp _ (.call _) _ _ _ _)) ; first | ((with_reducible apply go_fn_plain); rfl; (exact k1); rfl; (exact Nat.le_of_ble_eq_true rfl); rfl) | ((with_reducible apply go_fn_int); rfl; (exact d1); rfl) | ((with_reducible apply go_fn_int); rfl; (exact d2); rfl) | ((with_reducible apply go_fn_int); rfl; (exact d3); rfl) | ((with_reducible apply go_fn_int); rfl; (exact d4); rfl) | ((with_reducible apply go_fn_int); rfl; (exact d5); rfl))
             | (((with_reducible apply go_st_agg); rfl; rfl; rfl; rfl; rfl; rfl; rfl))
             | (((with_reducible apply go_pick); rfl; rfl; rfl))
             | (((with_reducible apply go_alloc); rfl; rfl; rfl)))
           | ((with_reducible (show evOps _ _ _ _ _ _)); first
             | (with_reducible apply go_nil)
             | ((with_reducible apply go_run); rfl; rfl)
             | ((with_reducible apply go_pass); rfl; rfl; rfl)
             | ((with_reducible apply go_skip); rfl; rfl)
             | (((with_reducible apply go_guard); rfl) <;> (intro h; simp only [h, Bool.not_true, Bool.not_false]; (try with_reducible (refine ⟨rfl, ?_⟩)); try simp only [decide_eq_true_eq, decide_eq_false_iff_not, Bool.not_eq_true', Bool.not_eq_false', Bool.not_true, Bool.not_false] at h; try exact absurd trivial h)))
           | ((with_reducible (show evG _ _ _ _ _)); first
             | (with_reducible apply go_seq)
             | (with_reducible apply go_region)
             | ((with_reducible apply go_cond_t); rfl; rfl)
             | ((with_reducible apply go_cond_f); rfl; rfl)
             | (((with_reducible apply go_cond); rfl) <;> (intro h; simp only [h]; try simp only [decide_eq_true_eq, decide_eq_false_iff_not, Bool.not_eq_true', Bool.not_eq_false', Bool.not_true, Bool.not_false] at h; try exact absurd trivial h))
             | (with_reducible apply go_ret)
             | (with_reducible apply go_skipc)
             | (with_reducible apply go_block)
             | (with_reducible apply go_exit))
           | (with_reducible apply go_kseq)
           | (with_reducible apply go_kseq_ret)
           | (with_reducible apply go_kblock)
           | (with_reducible apply go_kblock_ret)
           | (with_reducible apply go_kblock_exit)
           | (with_reducible apply go_kseq_exit)
           | ((with_reducible apply end_t2); rfl; rfl; rfl; rfl)
    all_goals first
      | (exfalso; omega)
      | (rw [hyes (decide_eq_true (by omega))]; rfl)
      | exact ⟨by omega, hno (decide_eq_false (by omega)), entails_eq (nx := 32) (k := 0) (ns := []) (ks := [33, 32, 31, 4, 2, 0]) [(0, 0)] rfl (by simp) (by kernel_rfl)⟩
      | trace_state
  · rw [nearAny_no fun j hj => hC j (by omega)]
    repeat' first
           | (with_reducible apply go_op)
           | (with_reducible apply go_next)
           | ((with_reducible (show evOp _ _ _ _ _ _)); first
             | ((with_reducible (show evOp _ (.move _) _ _ _ _)) ; first | ((with_reducible apply go_mv_int); rfl; rfl) | ((with_reducible apply go_mv_bool); rfl; rfl) | ((with_reducible apply go_mv_sl); rfl; rfl))
             | ((with_reducible apply go_as))
             | (((with_reducible apply go_ld_ptr); rfl; rfl; rfl))
             | (((with_reducible apply go_index_nat); rfl; rfl; (with_reducible rfl); (intro; rfl); rfl; omega; (intro hlt)))
             | ((with_reducible (show evOp _ (.binOp _ _ _ _ _) _ _ _ _)) ; first | ((with_reducible apply go_cmp); rfl; rfl; rfl; rfl) | ((with_reducible apply go_add); rfl; rfl; rfl; omega))
             | (((with_reducible apply go_st_agg); rfl; rfl; rfl; rfl; rfl; rfl; rfl))
             | (((with_reducible apply go_alloc); rfl; rfl; rfl)))
           | ((with_reducible (show evOps _ _ _ _ _ _)); first
             | (with_reducible apply go_nil))
           | ((with_reducible (show evG _ _ _ _ _)); first
             | (with_reducible apply go_seq)
             | (with_reducible apply go_region)
             | (((with_reducible apply go_cond); rfl) <;> (intro h; simp only [h]; try simp only [decide_eq_true_eq, decide_eq_false_iff_not, Bool.not_eq_true', Bool.not_eq_false', Bool.not_true, Bool.not_false] at h; try exact absurd trivial h))
             | (with_reducible apply go_ret)
             | (with_reducible apply go_skipc)
             | (with_reducible apply go_block)
             | (with_reducible apply go_exit))
           | (with_reducible apply go_kseq)
           | (with_reducible apply go_kblock_exit)
           | (with_reducible apply go_kseq_exit)
           | ((with_reducible apply end_t2); rfl; rfl; rfl; rfl)
    all_goals first | (exfalso; omega) | rfl | trace_state
theorem c_rNear (l : List Pt) (p : Pt) (d : Int) (hpo : polyE l = 0) (hp : ptOK p = true) (hd0 : 0 ≤ d) (hd1 : d ≤ 1000000) : Contract Try.prog 71 [.sl (l.map encPt), .agg (encPt p), .int .i64 d] (.ret (.bool (nearPoly l p d))) := by
  have hdd := dd_bd hd0 hd1
  obtain ⟨⟨h3, h40⟩, hok, hs⟩ := poly_ok hpo
  have h0 : 0 < l.length := by omega
  have hI := c_rInside l h0 (by omega) hok p hp
  by_cases hin : 0 ≤ insE l p
  · have en : nearPoly l p d = true := by rw [nearPoly, decide_eq_true hin, Bool.true_or]
    rw [en]
    refine contract_of mix Try.func71 rfl rfl (by rw [Try.ntmps71]; exact Nat.le_of_ble_eq_true rfl) ?_; rw [Try.results71, Try.ntmps71]; simp only [argsE, Nat.reduceAdd]
    repeat' first
           | (with_reducible apply go_op)
           | (with_reducible apply go_next)
           | ((with_reducible (show evOp _ _ _ _ _ _)); first
             | ((with_reducible (show evOp _ (.move _) _ _ _ _)) ; first | ((with_reducible apply go_mv_int); rfl; rfl) | ((with_reducible apply go_mv_bool); rfl; rfl) | ((with_reducible apply go_mv_sl); rfl; rfl))
             | ((with_reducible apply go_as))
             | (((with_reducible apply go_ld_agg); rfl; rfl; rfl; rfl))
             | (((with_reducible apply go_cmp); rfl; rfl; rfl; rfl))
             | (((with_reducible apply go_fn_int); rfl; (exact hI); rfl))
             | (((with_reducible apply go_bx_agg); rfl; rfl; (exact Nat.le_of_ble_eq_true rfl); rfl; rfl)))
           | ((with_reducible (show evOps _ _ _ _ _ _)); first
             | (with_reducible apply go_nil))
           | ((with_reducible (show evG _ _ _ _ _)); first
             | (with_reducible apply go_seq)
             | (with_reducible apply go_region)
             | (((with_reducible apply go_cond); rfl) <;> (intro h; simp only [h]; try simp only [decide_eq_true_eq, decide_eq_false_iff_not, Bool.not_eq_true', Bool.not_eq_false', Bool.not_true, Bool.not_false] at h; try exact absurd trivial h))
             | (with_reducible apply go_ret)
             | (with_reducible apply go_skipc)
             | (with_reducible apply go_block))
           | (with_reducible apply go_kseq)
           | (with_reducible apply go_kseq_ret)
           | ((with_reducible apply end_bool); rfl)
           | (with_reducible rfl)
    all_goals first | rfl | (exfalso; omega) | trace_state
  have en : nearPoly l p d = nearAny l p d := by rw [nearPoly, decide_eq_false hin, Bool.false_or]
  rw [en]
  refine contract_of mix Try.func71 rfl rfl (by rw [Try.ntmps71]; exact Nat.le_of_ble_eq_true rfl) ?_; rw [Try.results71, Try.ntmps71]; simp only [argsE, Nat.reduceAdd]
  repeat' first
           | (with_reducible apply go_op)
           | (with_reducible apply go_next)
           | ((with_reducible (show evOp _ _ _ _ _ _)); first
             | ((with_reducible (show evOp _ (.move _) _ _ _ _)) ; first | ((with_reducible apply go_mv_int); rfl; rfl) | ((with_reducible apply go_mv_bool); rfl; rfl) | ((with_reducible apply go_mv_sl); rfl; rfl))
             | ((with_reducible apply go_as))
             | (((with_reducible apply go_ld_agg); rfl; rfl; rfl; rfl))
             | (((with_reducible apply go_cmp); rfl; rfl; rfl; rfl))
             | (((with_reducible apply go_fn_int); rfl; (exact hI); rfl))
             | (((with_reducible apply go_bx_agg); rfl; rfl; (exact Nat.le_of_ble_eq_true rfl); rfl; rfl)))
           | ((with_reducible (show evOps _ _ _ _ _ _)); first
             | (with_reducible apply go_nil))
           | ((with_reducible (show evG _ _ _ _ _)); first
             | (with_reducible apply go_seq)
             | (with_reducible apply go_region)
             | (((with_reducible apply go_cond); rfl) <;> (intro h; simp only [h]; try simp only [decide_eq_true_eq, decide_eq_false_iff_not, Bool.not_eq_true', Bool.not_eq_false', Bool.not_true, Bool.not_false] at h; try exact absurd trivial h))
             | (with_reducible apply go_ret)
             | (with_reducible apply go_skipc)
             | (with_reducible apply go_block))
           | (with_reducible apply go_kseq)
           | (with_reducible apply go_kseq_ret)
           | ((with_reducible apply end_bool); rfl)
  all_goals try (exfalso; omega)
  refine go_count l.length (fun i => ⟨[(7, .int .i64 i), (4, .op 0 0 0), (2, .int .i64 d), (0, .sl (l.map encPt))], [(0, ⟨2, true, [encPt p]⟩)], 32, 59⟩) (fun i => ∀ j, j < i → nearB (cornerP l j) (cornerP l (j + 1)) p d = false)
    (entails_eq (nx := 32) (k := 0) (ns := []) (ks := [7, 4, 2, 0]) [(0, 0)] rfl (by simp) (by kernel_rfl)) (by omega) ?_
  intro i hi hC
  by_cases h2 : i < l.length
  · have hne := edge_ne hpo i
    have oa := hok _ (cornerP_mem h0 i)
    have ob := hok _ (cornerP_mem h0 (i + 1))
    have k0 := c_rcorner l h0 (by omega) i
    have k1 : Contract Try.prog 90 [.sl (l.map encPt), .int .i64 ((i : Int) + 1)] (.ret (.agg (encPt (cornerP l (i + 1))))) := c_rcorner l h0 (by omega) (i + 1)
    have hyes := fun h => nearAny_yes (l := l) (p := p) (d := d) h2 h
    have hno : nearB (cornerP l i) (cornerP l (i + 1)) p d = false → ∀ j, j < i + 1 → nearB (cornerP l j) (cornerP l (j + 1)) p d = false := fun h j hj => by
      rcases Nat.lt_succ_iff_lt_or_eq.1 hj with h' | rfl
      · exact hC j h'
      · exact h
    have d1 := c_rdot (cornerP l i) (cornerP l (i + 1)) p oa ob hp
    have d2 := c_rsquare p (cornerP l i) hp oa
    have d3 := c_rsquare p (cornerP l (i + 1)) hp ob
    have d4 := c_rsquare (cornerP l i) (cornerP l (i + 1)) oa ob
    have d5 := c_rOffset (cornerP l i) (cornerP l (i + 1)) p oa ob hp hne
    rw [sq_sym] at d2 d3
    generalize cornerP l (i + 1) = b at *
    generalize cornerP l i = a at *
    unfold nearB at hyes hno
    repeat' first
           | (with_reducible apply go_op)
           | (with_reducible apply go_next)
           | ((with_reducible (show evOp _ _ _ _ _ _)); first
             | ((with_reducible (show evOp _ (.move _) _ _ _ _)) ; first | ((with_reducible apply go_mv_int); rfl; rfl) | ((with_reducible apply go_mv_bool); rfl; rfl) | ((with_reducible apply go_mv_sl); rfl; rfl))
             | ((with_reducible apply go_as))
             | (((with_reducible apply go_ld_agg); rfl; rfl; rfl; rfl))
             | ((with_reducible (show evOp _ (.binOp _ _ _ _ _) _ _ _ _)) ; first | ((with_reducible apply go_cmp); rfl; rfl; rfl; rfl) | ((with_reducible apply go_add); rfl; rfl; rfl; omega) | ((with_reducible apply go_mul); rfl; rfl; rfl; omega))
             | ((with_reducible (show evOp _ (.call _) _ _ _ _)) ; first | ((with_reducible apply go_len); rfl; rfl) | ((with_reducible apply go_fn_plain); rfl; (exact k0); rfl; (exact Nat.le_of_ble_eq_true rfl); rfl) | ((with_reducible apply go_fn_plain); rfl; (exact k1); rfl; (exact Nat.le_of_ble_eq_true rfl); rfl) | ((with_reducible apply go_fn_int); rfl; (exact d1); rfl) | ((with_reducible apply go_fn_int); rfl; (exact d2); rfl) | ((with_reducible apply go_fn_int); rfl; (exact d3); rfl) | ((with_reducible apply go_fn_int); rfl; (exact d4); rfl) | ((with_reducible apply go_fn_int); rfl; (exact d5); rfl) | ((with_reducible apply go_fn_bool); rfl; (exact c_within _ _ _); rfl))
             | (((with_reducible apply go_st_agg); rfl; rfl; rfl; rfl; rfl; rfl; rfl))
             | (((with_reducible apply go_pick); rfl; rfl; rfl))
             | (((with_reducible apply go_alloc); rfl; rfl; rfl)))
           | ((with_reducible (show evOps _ _ _ _ _ _)); first
             | (with_reducible apply go_nil)
             | ((with_reducible apply go_run); rfl; rfl)
             | ((with_reducible apply go_pass); rfl; rfl; rfl)
             | (((with_reducible apply go_guard); rfl) <;> (intro h; simp only [h, Bool.not_true, Bool.not_false]; (try with_reducible (refine ⟨rfl, ?_⟩)); try simp only [decide_eq_true_eq, decide_eq_false_iff_not, Bool.not_eq_true', Bool.not_eq_false', Bool.not_true, Bool.not_false] at h; try exact absurd trivial h))
             | ((with_reducible apply go_pre); rfl)
             | (with_reducible apply go_pre_nil)
             | ((with_reducible apply go_suf); rfl)
             | (with_reducible apply go_suf_nil))
           | ((with_reducible (show evG _ _ _ _ _)); first
             | (with_reducible apply go_seq)
             | (with_reducible apply go_region)
             | ((with_reducible apply go_cond_t); rfl; rfl)
             | ((with_reducible apply go_cond_f); rfl; rfl)
             | (((with_reducible apply go_cond); rfl) <;> (intro h; simp only [h]; try simp only [decide_eq_true_eq, decide_eq_false_iff_not, Bool.not_eq_true', Bool.not_eq_false', Bool.not_true, Bool.not_false] at h; try exact absurd trivial h))
             | ((with_reducible apply go_order); kernel_rfl; rfl)
             | (with_reducible apply go_ret)
             | (with_reducible apply go_skipc)
             | (with_reducible apply go_block)
             | (with_reducible apply go_exit))
           | (with_reducible apply go_kseq)
           | (with_reducible apply go_ksuf)
           | (with_reducible apply go_kseq_ret)
           | (with_reducible apply go_kblock)
           | (with_reducible apply go_kblock_ret)
           | (with_reducible apply go_kblock_exit)
           | (with_reducible apply go_kseq_exit)
           | ((with_reducible apply end_bool); rfl)
    all_goals first
      | (exfalso; omega)
      | (rw [hyes (decide_eq_true (by omega))]; done)
      | exact ⟨by omega, hno (decide_eq_false (by omega)), entails_eq (nx := 32) (k := 0) (ns := []) (ks := [7, 4, 2, 0]) [(0, 0)] rfl (by simp) (by kernel_rfl)⟩
      | trace_state
  · rw [nearAny_no fun j hj => hC j (by omega)]
    repeat' first
           | (with_reducible apply go_op)
           | (with_reducible apply go_next)
           | ((with_reducible (show evOp _ _ _ _ _ _)); first
             | ((with_reducible (show evOp _ (.move _) _ _ _ _)) ; first | ((with_reducible apply go_mv_int); rfl; rfl) | ((with_reducible apply go_mv_bool); rfl; rfl) | ((with_reducible apply go_mv_sl); rfl; rfl))
             | ((with_reducible apply go_as))
             | (((with_reducible apply go_cmp); rfl; rfl; rfl; rfl))
             | (((with_reducible apply go_len); rfl; rfl)))
           | ((with_reducible (show evOps _ _ _ _ _ _)); first
             | (with_reducible apply go_nil))
           | ((with_reducible (show evG _ _ _ _ _)); first
             | (with_reducible apply go_seq)
             | (with_reducible apply go_region)
             | (((with_reducible apply go_cond); rfl) <;> (intro h; simp only [h]; try simp only [decide_eq_true_eq, decide_eq_false_iff_not, Bool.not_eq_true', Bool.not_eq_false', Bool.not_true, Bool.not_false] at h; try exact absurd trivial h))
             | (with_reducible apply go_ret)
             | (with_reducible apply go_skipc)
             | (with_reducible apply go_block)
             | (with_reducible apply go_exit))
           | (with_reducible apply go_kseq)
           | (with_reducible apply go_kblock_exit)
           | (with_reducible apply go_kseq_exit)
           | ((with_reducible apply end_bool); rfl)
           | (with_reducible rfl)
    all_goals first | (exfalso; omega) | rfl | trace_state
theorem c18 (l : List Pt) (p : Pt) (d : Int) : Contract Try.prog 18 [.sl (l.map encPt), .agg (encPt p), .int .i64 d] (.ret (.bool true)) := by
  by_cases h50 : l.length ≤ 50
  rotate_left
  · refine contract_of mix Try.func18 rfl rfl (by rw [Try.ntmps18]; exact Nat.le_of_ble_eq_true rfl) ?_; rw [Try.results18, Try.ntmps18]; simp only [argsE, Nat.reduceAdd]
    repeat' first
           | (with_reducible apply go_op)
           | (with_reducible apply go_next)
           | ((with_reducible (show evOp _ _ _ _ _ _)); first
             | ((with_reducible (show evOp _ (.move _) _ _ _ _)) ; first | ((with_reducible apply go_mv_bool); rfl; rfl) | ((with_reducible apply go_mv_sl); rfl; rfl))
             | ((with_reducible apply go_as))
             | (((with_reducible apply go_ld_agg); rfl; rfl; rfl; rfl))
             | (((with_reducible apply go_cmp); rfl; rfl; rfl; rfl))
             | ((with_reducible (show evOp _ (.call _) _ _ _ _)) ; first | ((with_reducible apply go_len); rfl; rfl) | ((with_reducible apply go_fn_bool); rfl; (exact c_awake); rfl))
             | (((with_reducible apply go_not); rfl; rfl))
             | (((with_reducible apply go_bx_agg); rfl; rfl; (exact Nat.le_of_ble_eq_true rfl); rfl; rfl)))
           | ((with_reducible (show evOps _ _ _ _ _ _)); first
             | (with_reducible apply go_nil))
           | ((with_reducible (show evG _ _ _ _ _)); first
             | (with_reducible apply go_seq)
             | (with_reducible apply go_region)
             | ((with_reducible apply go_cond_f); rfl; rfl)
             | (((with_reducible apply go_cond); rfl) <;> (intro h; simp only [h]; try simp only [decide_eq_true_eq, decide_eq_false_iff_not, Bool.not_eq_true', Bool.not_eq_false', Bool.not_true, Bool.not_false] at h; try exact absurd trivial h))
             | (with_reducible apply go_ret)
             | (with_reducible apply go_skipc))
           | (with_reducible apply go_kseq)
           | (with_reducible apply go_kseq_ret)
           | ((with_reducible apply end_bool); rfl)
           | (with_reducible rfl)
    all_goals first | rfl | (exfalso; omega) | trace_state
  have x1 := c_Inside l p
  have x2 := c_Near l p d
  have x3 := c_rCheckPolygon l
  have g := c_good p
  by_cases hz : polyE l = 0
  rotate_left
  · have e1 : insX l p = (0, polyE l) := if_pos hz
    have e2 : nearX l p d = (false, polyE l) := by unfold nearX; rw [e1]; exact if_pos hz
    rw [e1] at x1
    rw [e2] at x2
    refine contract_of mix Try.func18 rfl rfl (by rw [Try.ntmps18]; exact Nat.le_of_ble_eq_true rfl) ?_; rw [Try.results18, Try.ntmps18]; simp only [argsE, Nat.reduceAdd]
    repeat' first
           | (with_reducible apply go_op)
           | (with_reducible apply go_next)
           | ((with_reducible (show evOp _ _ _ _ _ _)); first
             | ((with_reducible (show evOp _ (.move _) _ _ _ _)) ; first | ((with_reducible apply go_mv_int); rfl; rfl) | ((with_reducible apply go_mv_bool); rfl; rfl) | ((with_reducible apply go_mv_sl); rfl; rfl) | ((with_reducible apply go_mv_tup); rfl; rfl))
             | ((with_reducible apply go_as))
             | (((with_reducible apply go_ld_agg); rfl; rfl; rfl; rfl))
             | (((with_reducible apply go_cmp); rfl; rfl; rfl; rfl))
             | ((with_reducible (show evOp _ (.call _) _ _ _ _)) ; first | ((with_reducible apply go_len); rfl; rfl) | ((with_reducible apply go_fn_bool); rfl; (exact c_awake); rfl) | ((with_reducible apply go_fn_plain); rfl; (exact x1); rfl; (exact Nat.le_of_ble_eq_true rfl); rfl) | ((with_reducible apply go_fn_plain); rfl; (exact x2); rfl; (exact Nat.le_of_ble_eq_true rfl); rfl) | ((with_reducible apply go_fn_int); rfl; (exact x3); rfl) | ((with_reducible apply go_fn_bool); rfl; (exact g); rfl))
             | (((with_reducible apply go_not); rfl; rfl))
             | (((with_reducible apply go_extract); rfl; rfl))
             | (((with_reducible apply go_pick); rfl; rfl; rfl))
             | (((with_reducible apply go_bx_agg); rfl; rfl; (exact Nat.le_of_ble_eq_true rfl); rfl; rfl)))
           | ((with_reducible (show evOps _ _ _ _ _ _)); first
             | (with_reducible apply go_nil)
             | ((with_reducible apply go_run); rfl; rfl)
             | ((with_reducible apply go_pass); rfl; rfl; rfl)
             | (((with_reducible apply go_guard); rfl) <;> (intro h; simp only [h, Bool.not_true, Bool.not_false]; (try with_reducible (refine ⟨rfl, ?_⟩)); try simp only [decide_eq_true_eq, decide_eq_false_iff_not, Bool.not_eq_true', Bool.not_eq_false', Bool.not_true, Bool.not_false] at h; try exact absurd trivial h)))
           | ((with_reducible (show evG _ _ _ _ _)); first
             | (with_reducible apply go_seq)
             | (with_reducible apply go_region)
             | ((with_reducible apply go_cond_t); rfl; rfl)
             | ((with_reducible apply go_cond_f); rfl; rfl)
             | (((with_reducible apply go_cond); rfl) <;> (intro h; simp only [h]; try simp only [decide_eq_true_eq, decide_eq_false_iff_not, Bool.not_eq_true', Bool.not_eq_false', Bool.not_true, Bool.not_false] at h; try exact absurd trivial h))
             | (with_reducible apply go_ret)
             | (with_reducible apply go_skipc))
           | (with_reducible apply go_kseq)
           | (with_reducible apply go_kseq_ret)
           | ((with_reducible apply end_bool); rfl)
           | (with_reducible rfl)
    all_goals first | rfl | (exfalso; omega) | (exfalso; simp_all; done) | (simp; done) | trace_state
  rw [hz] at x3
  cases hp : ptOK p
  · have e1 : insX l p = (0, 2) := by rw [insX, if_neg (by omega), if_pos hp]
    have e2 : nearX l p d = (false, 2) := by unfold nearX; rw [e1]; exact if_pos (by simp)
    rw [e1] at x1
    rw [e2] at x2
    rw [hp] at g
    refine contract_of mix Try.func18 rfl rfl (by rw [Try.ntmps18]; exact Nat.le_of_ble_eq_true rfl) ?_; rw [Try.results18, Try.ntmps18]; simp only [argsE, Nat.reduceAdd]
    repeat' first
           | (with_reducible apply go_op)
           | (with_reducible apply go_next)
           | ((with_reducible (show evOp _ _ _ _ _ _)); first
             | ((with_reducible (show evOp _ (.move _) _ _ _ _)) ; first | ((with_reducible apply go_mv_int); rfl; rfl) | ((with_reducible apply go_mv_bool); rfl; rfl) | ((with_reducible apply go_mv_sl); rfl; rfl) | ((with_reducible apply go_mv_tup); rfl; rfl))
             | ((with_reducible apply go_as))
             | (((with_reducible apply go_ld_agg); rfl; rfl; rfl; rfl))
             | (((with_reducible apply go_cmp); rfl; rfl; rfl; rfl))
             | ((with_reducible (show evOp _ (.call _) _ _ _ _)) ; first | ((with_reducible apply go_len); rfl; rfl) | ((with_reducible apply go_fn_bool); rfl; (exact c_awake); rfl) | ((with_reducible apply go_fn_plain); rfl; (exact x1); rfl; (exact Nat.le_of_ble_eq_true rfl); rfl) | ((with_reducible apply go_fn_plain); rfl; (exact x2); rfl; (exact Nat.le_of_ble_eq_true rfl); rfl) | ((with_reducible apply go_fn_int); rfl; (exact x3); rfl) | ((with_reducible apply go_fn_bool); rfl; (exact g); rfl))
             | (((with_reducible apply go_not); rfl; rfl))
             | (((with_reducible apply go_extract); rfl; rfl))
             | (((with_reducible apply go_pick); rfl; rfl; rfl))
             | (((with_reducible apply go_bx_agg); rfl; rfl; (exact Nat.le_of_ble_eq_true rfl); rfl; rfl)))
           | ((with_reducible (show evOps _ _ _ _ _ _)); first
             | (with_reducible apply go_nil)
             | ((with_reducible apply go_run); rfl; rfl))
           | ((with_reducible (show evG _ _ _ _ _)); first
             | (with_reducible apply go_seq)
             | (with_reducible apply go_region)
             | ((with_reducible apply go_cond_t); rfl; rfl)
             | ((with_reducible apply go_cond_f); rfl; rfl)
             | (((with_reducible apply go_cond); rfl) <;> (intro h; simp only [h]; try simp only [decide_eq_true_eq, decide_eq_false_iff_not, Bool.not_eq_true', Bool.not_eq_false', Bool.not_true, Bool.not_false] at h; try exact absurd trivial h))
             | (with_reducible apply go_ret)
             | (with_reducible apply go_skipc))
           | (with_reducible apply go_kseq)
           | (with_reducible apply go_kseq_ret)
           | ((with_reducible apply end_bool); rfl)
           | (with_reducible rfl)
    all_goals first | rfl | (exfalso; omega) | (exfalso; simp_all; done) | (simp; done) | trace_state
  rw [hp] at g
  obtain ⟨⟨h3, h40⟩, hok, hs⟩ := poly_ok hz
  have e1 : insX l p = (insE l p, 0) := by rw [insX, if_neg (by omega), if_neg (by rw [hp]; simp)]
  have y1 := c_rInside l (by omega) (by omega) hok p hp
  by_cases hd : d < 0 ∨ 1000000 < d
  · have e2 : nearX l p d = (false, 2) := by unfold nearX; rw [e1, if_neg (by simp), if_pos hd]
    rw [e1] at x1
    rw [e2] at x2
    refine contract_of mix Try.func18 rfl rfl (by rw [Try.ntmps18]; exact Nat.le_of_ble_eq_true rfl) ?_; rw [Try.results18, Try.ntmps18]; simp only [argsE, Nat.reduceAdd]
    repeat' first
           | (with_reducible apply go_op)
           | (with_reducible apply go_next)
           | ((with_reducible (show evOp _ _ _ _ _ _)); first
             | ((with_reducible (show evOp _ (.move _) _ _ _ _)) ; first | ((with_reducible apply go_mv_int); rfl; rfl) | ((with_reducible apply go_mv_bool); rfl; rfl) | ((with_reducible apply go_mv_sl); rfl; rfl) | ((with_reducible apply go_mv_tup); rfl; rfl))
             | ((with_reducible apply go_as))
             | (((with_reducible apply go_ld_agg); rfl; rfl; rfl; rfl))
             | (((with_reducible apply go_cmp); rfl; rfl; rfl; rfl))
             | ((with_reducible (show evOp _ (.call _) _ _ _ _)) ; first | ((with_reducible apply go_len); rfl; rfl) | ((with_reducible apply go_fn_bool); rfl; (exact c_awake); rfl) | ((with_reducible apply go_fn_plain); rfl; (exact x1); rfl; (exact Nat.le_of_ble_eq_true rfl); rfl) | ((with_reducible apply go_fn_plain); rfl; (exact x2); rfl; (exact Nat.le_of_ble_eq_true rfl); rfl) | ((with_reducible apply go_fn_int); rfl; (exact x3); rfl) | ((with_reducible apply go_fn_bool); rfl; (exact g); rfl) | ((with_reducible apply go_fn_int); rfl; (exact y1); rfl))
             | (((with_reducible apply go_not); rfl; rfl))
             | (((with_reducible apply go_extract); rfl; rfl))
             | (((with_reducible apply go_pick); rfl; rfl; rfl))
             | (((with_reducible apply go_bx_agg); rfl; rfl; (exact Nat.le_of_ble_eq_true rfl); rfl; rfl)))
           | ((with_reducible (show evOps _ _ _ _ _ _)); first
             | (with_reducible apply go_nil)
             | ((with_reducible apply go_run); rfl; rfl)
             | ((with_reducible apply go_pass); rfl; rfl; rfl)
             | (((with_reducible apply go_guard); rfl) <;> (intro h; simp only [h, Bool.not_true, Bool.not_false]; (try with_reducible (refine ⟨rfl, ?_⟩)); try simp only [decide_eq_true_eq, decide_eq_false_iff_not, Bool.not_eq_true', Bool.not_eq_false', Bool.not_true, Bool.not_false] at h; try exact absurd trivial h)))
           | ((with_reducible (show evG _ _ _ _ _)); first
             | (with_reducible apply go_seq)
             | (with_reducible apply go_region)
             | ((with_reducible apply go_cond_t); rfl; rfl)
             | ((with_reducible apply go_cond_f); rfl; rfl)
             | (((with_reducible apply go_cond); rfl) <;> (intro h; simp only [h]; try simp only [decide_eq_true_eq, decide_eq_false_iff_not, Bool.not_eq_true', Bool.not_eq_false', Bool.not_true, Bool.not_false] at h; try exact absurd trivial h))
             | (with_reducible apply go_ret)
             | (with_reducible apply go_skipc))
           | (with_reducible apply go_kseq)
           | (with_reducible apply go_kseq_ret)
           | ((with_reducible apply end_bool); rfl)
           | (with_reducible rfl)
    all_goals first | rfl | (exfalso; omega) | (exfalso; simp_all; done) | (simp; done) | trace_state
  have e2 : nearX l p d = (nearPoly l p d, 0) := by unfold nearX; rw [e1, if_neg (by simp), if_neg hd]
  rw [e1] at x1
  rw [e2] at x2
  have y2 := c_rNear l p d hz hp (by omega) (by omega)
  refine contract_of mix Try.func18 rfl rfl (by rw [Try.ntmps18]; exact Nat.le_of_ble_eq_true rfl) ?_; rw [Try.results18, Try.ntmps18]; simp only [argsE, Nat.reduceAdd]
  repeat' first
           | (with_reducible apply go_op)
           | (with_reducible apply go_next)
           | ((with_reducible (show evOp _ _ _ _ _ _)); first
             | ((with_reducible (show evOp _ (.move _) _ _ _ _)) ; first | ((with_reducible apply go_mv_int); rfl; rfl) | ((with_reducible apply go_mv_bool); rfl; rfl) | ((with_reducible apply go_mv_sl); rfl; rfl) | ((with_reducible apply go_mv_tup); rfl; rfl))
             | ((with_reducible apply go_as))
             | (((with_reducible apply go_ld_agg); rfl; rfl; rfl; rfl))
             | ((with_reducible (show evOp _ (.binOp _ _ _ _ _) _ _ _ _)) ; first | ((with_reducible apply go_cmp); rfl; rfl; rfl; rfl) | ((with_reducible apply go_bin); rfl; rfl))
             | ((with_reducible (show evOp _ (.call _) _ _ _ _)) ; first | ((with_reducible apply go_len); rfl; rfl) | ((with_reducible apply go_fn_bool); rfl; (exact c_awake); rfl) | ((with_reducible apply go_fn_plain); rfl; (exact x1); rfl; (exact Nat.le_of_ble_eq_true rfl); rfl) | ((with_reducible apply go_fn_plain); rfl; (exact x2); rfl; (exact Nat.le_of_ble_eq_true rfl); rfl) | ((with_reducible apply go_fn_int); rfl; (exact x3); rfl) | ((with_reducible apply go_fn_bool); rfl; (exact g); rfl) | ((with_reducible apply go_fn_int); rfl; (exact y1); rfl) | ((with_reducible apply go_fn_bool); rfl; (exact y2); rfl))
             | (((with_reducible apply go_not); rfl; rfl))
             | (((with_reducible apply go_extract); rfl; rfl))
             | (((with_reducible apply go_pick); rfl; rfl; rfl))
             | (((with_reducible apply go_bx_agg); rfl; rfl; (exact Nat.le_of_ble_eq_true rfl); rfl; rfl)))
           | ((with_reducible (show evOps _ _ _ _ _ _)); first
             | (with_reducible apply go_nil)
             | ((with_reducible apply go_run); rfl; rfl)
             | ((with_reducible apply go_pass); rfl; rfl; rfl)
             | (((with_reducible apply go_guard); rfl) <;> (intro h; simp only [h, Bool.not_true, Bool.not_false]; (try with_reducible (refine ⟨rfl, ?_⟩)); try simp only [decide_eq_true_eq, decide_eq_false_iff_not, Bool.not_eq_true', Bool.not_eq_false', Bool.not_true, Bool.not_false] at h; try exact absurd trivial h)))
           | ((with_reducible (show evG _ _ _ _ _)); first
             | (with_reducible apply go_seq)
             | (with_reducible apply go_region)
             | ((with_reducible apply go_cond_t); rfl; rfl)
             | ((with_reducible apply go_cond_f); rfl; rfl)
             | (((with_reducible apply go_cond); rfl) <;> (intro h; simp only [h]; try simp only [decide_eq_true_eq, decide_eq_false_iff_not, Bool.not_eq_true', Bool.not_eq_false', Bool.not_true, Bool.not_false] at h; try exact absurd trivial h))
             | (with_reducible apply go_ret)
             | (with_reducible apply go_skipc))
           | (with_reducible apply go_kseq)
           | (with_reducible apply go_kseq_ret)
           | ((with_reducible apply end_bool); rfl)
           | (with_reducible rfl)
  all_goals first | rfl | (exfalso; omega) | (exfalso; simp_all; done) | (simp; done) | trace_state
end Go.Pv.Geo

import Derived.Test.YtbojgmhpmcnfjaaProg
import Derived.Test.YtbojgmhpmcnfjaaGK
import Derived.Test.YtbojgmhpmcnfjaaGB
import Derived.KernelRfl
/- Part of the proofs over Ytbojgmhpmcnfjaa: H18. -/
set_option linter.unusedVariables false
set_option linter.unusedSimpArgs false
set_option linter.unnecessarySimpa false
open Go Go.Proofs Go.Pv
set_option maxHeartbeats 4000000
set_option maxRecDepth 100000
set_option linter.unusedSimpArgs false
set_option linter.unusedVariables false
namespace Go.Pv.Geo
/-- The corners of a rectangle. -/
def boxL (a b : Pt) : List Pt := [a, ⟨b.x, a.y⟩, b, ⟨a.x, b.y⟩]
def encT4b (a b : Pt) : List D := [.int .i64 a.x, .int .i64 a.y, .int .i64 b.x, .int .i64 a.y, .int .i64 b.x, .int .i64 b.y, .int .i64 a.x, .int .i64 b.y]
theorem box_ok {a b : Pt} (ha : ptOK a = true) (hb : ptOK b = true) : ∀ p ∈ boxL a b, ptOK p = true := by
  have h1 := pt_bd ha
  have h2 := pt_bd hb
  intro p hp
  simp only [boxL, List.mem_cons, List.not_mem_nil, or_false] at hp
  rcases hp with rfl | rfl | rfl | rfl
  · exact ha
  · simp only [ptOK, decide_eq_true_eq]; omega
  · exact hb
  · simp only [ptOK, decide_eq_true_eq]; omega
theorem box3 (a b : Pt) : cornerP (boxL a b) 3 = ⟨a.x, b.y⟩ := by simp [cornerP, boxL]
theorem box4 (a b : Pt) : cornerP (boxL a b) 4 = a := by simp [cornerP, boxL]
def inBox (a b p : Pt) : Bool := decide ((a.x ≤ p.x ∧ p.x ≤ b.x) ∧ a.y ≤ p.y ∧ p.y ≤ b.y)
def boxIn (l : List Pt) (a b : Pt) (k : Nat) : Bool := decide (0 ≤ insE l (cornerP (boxL a b) k))
def edgeHit (l : List Pt) (a b : Pt) (i k : Nat) : Bool := meetE (cornerP l i) (cornerP l (i + 1)) (cornerP (boxL a b) k) (cornerP (boxL a b) (k + 1))
def touchE (l : List Pt) (a b : Pt) : Bool := ((List.range 4).any fun k => boxIn l a b k) || (List.range l.length).any fun i => inBox a b (cornerP l i) || (List.range 4).any fun k => edgeHit l a b i k
theorem touch_box {l : List Pt} {a b : Pt} {k : Nat} (hk : k < 4) (h : boxIn l a b k = true) : touchE l a b = true := by
  rw [touchE, List.any_eq_true.2 ⟨k, List.mem_range.2 hk, h⟩, Bool.true_or]
theorem touch_in {l : List Pt} {a b : Pt} {i : Nat} (hi : i < l.length) (h : inBox a b (cornerP l i) = true) : touchE l a b = true := by
  have : ((List.range l.length).any fun i => inBox a b (cornerP l i) || (List.range 4).any fun k => edgeHit l a b i k) = true := List.any_eq_true.2 ⟨i, List.mem_range.2 hi, by rw [h, Bool.true_or]⟩
  rw [touchE, this, Bool.or_true]
theorem touch_hit {l : List Pt} {a b : Pt} {i k : Nat} (hi : i < l.length) (hk : k < 4) (h : edgeHit l a b i k = true) : touchE l a b = true := by
  have : ((List.range l.length).any fun i => inBox a b (cornerP l i) || (List.range 4).any fun k => edgeHit l a b i k) = true := List.any_eq_true.2 ⟨i, List.mem_range.2 hi, by rw [List.any_eq_true.2 ⟨k, List.mem_range.2 hk, h⟩, Bool.or_true]⟩
  rw [touchE, this, Bool.or_true]
theorem touch_no {l : List Pt} {a b : Pt} (h1 : ∀ k, k < 4 → boxIn l a b k = false) (h2 : ∀ i, i < l.length → inBox a b (cornerP l i) = false ∧ ∀ k, k < 4 → edgeHit l a b i k = false) : touchE l a b = false := by
  have e1 : ((List.range 4).any fun k => boxIn l a b k) = false := by
    rw [List.any_eq_false]; intro k hk; rw [h1 k (List.mem_range.1 hk)]; simp
  have e2 : ((List.range l.length).any fun i => inBox a b (cornerP l i) || (List.range 4).any fun k => edgeHit l a b i k) = false := by
    rw [List.any_eq_false]; intro i hi
    obtain ⟨q1, q2⟩ := h2 i (List.mem_range.1 hi)
    have : ((List.range 4).any fun k => edgeHit l a b i k) = false := by rw [List.any_eq_false]; intro k hk; rw [q2 k (List.mem_range.1 hk)]; simp
    rw [q1, this]; simp
  rw [touchE, e1, e2]; rfl
def touchX (l : List Pt) (a b : Pt) : Bool × Int :=
  if polyE l ≠ 0 then (false, polyE l) else if (ptOK a && ptOK b) = false then (false, 2) else if b.x < a.x ∨ b.y < a.y then (false, 9) else (touchE l a b, 0)

theorem c_Touches (l : List Pt) (a b : Pt) : Contract Try.prog 57 [.sl (l.map encPt), .agg (encPt a), .agg (encPt b)] (.ret (.tup [.bool (touchX l a b).1, .int .i64 (touchX l a b).2])) := by
  have hC := c_CheckPolygon l
  have ho := c_outside_2 a b
  by_cases hz : polyE l = 0
  rotate_left
  · have e : touchX l a b = (false, polyE l) := if_pos hz
    rw [e]
    refine contract_of mix Try.func57 rfl rfl (by rw [Try.ntmps57]; exact Nat.le_of_ble_eq_true rfl) ?_; rw [Try.results57, Try.ntmps57]; simp only [argsE, Nat.reduceAdd]
    repeat' first
           | (with_reducible apply go_op)
           | (with_reducible apply go_next)
           | ((with_reducible (show evOp _ _ _ _ _ _)); first
             | ((with_reducible (show evOp _ (.move _) _ _ _ _)) ; first | ((with_reducible apply go_mv_int); rfl; rfl) | ((with_reducible apply go_mv_bool); rfl; rfl) | ((with_reducible apply go_mv_sl); rfl; rfl))
             | ((with_reducible apply go_as))
             | (((with_reducible apply go_ld_agg); rfl; rfl; rfl; rfl))
             | (((with_reducible apply go_cmp); rfl; rfl; rfl; rfl))
             | (((with_reducible apply go_fn_int); rfl; (exact hC); rfl))
             | (((with_reducible apply go_bx_agg); rfl; rfl; (exact Nat.le_of_ble_eq_true rfl); rfl; rfl))
             | (((with_reducible apply go_bs2_agg); rfl; rfl; rfl; rfl; rfl; rfl; rfl; rfl)))
           | ((with_reducible (show evOps _ _ _ _ _ _)); first
             | (with_reducible apply go_nil))
           | ((with_reducible (show evG _ _ _ _ _)); first
             | (with_reducible apply go_seq)
             | (with_reducible apply go_region)
             | (((with_reducible apply go_cond); rfl) <;> (intro h; simp only [h]; try simp only [decide_eq_true_eq, decide_eq_false_iff_not, Bool.not_eq_true', Bool.not_eq_false', Bool.not_true, Bool.not_false] at h; try exact absurd trivial h))
             | (with_reducible apply go_ret)
             | (with_reducible apply go_skipc))
           | (with_reducible apply go_kseq)
           | (with_reducible apply go_kseq_ret)
           | ((with_reducible apply end_t2); rfl; rfl; rfl; rfl)
    all_goals first | rfl | (exfalso; omega)
  rw [hz] at hC
  obtain ⟨⟨h3, h40⟩, hok, -⟩ := poly_ok hz
  cases hab : ptOK a && ptOK b
  · have e : touchX l a b = (false, 2) := by rw [touchX, if_neg (by omega), if_pos hab]
    rw [e]
    rw [hab] at ho
    refine contract_of mix Try.func57 rfl rfl (by rw [Try.ntmps57]; exact Nat.le_of_ble_eq_true rfl) ?_; rw [Try.results57, Try.ntmps57]; simp only [argsE, Nat.reduceAdd]
    repeat' first
           | (with_reducible apply go_op)
           | (with_reducible apply go_next)
           | ((with_reducible (show evOp _ _ _ _ _ _)); first
             | ((with_reducible (show evOp _ (.move _) _ _ _ _)) ; first | ((with_reducible apply go_mv_int); rfl; rfl) | ((with_reducible apply go_mv_bool); rfl; rfl) | ((with_reducible apply go_mv_sl); rfl; rfl))
             | ((with_reducible apply go_as))
             | (((with_reducible apply go_ld_agg); rfl; rfl; rfl; rfl))
             | (((with_reducible apply go_cmp); rfl; rfl; rfl; rfl))
             | ((with_reducible (show evOp _ (.call _) _ _ _ _)) ; first | ((with_reducible apply go_fn_int); rfl; (exact hC); rfl) | ((with_reducible apply go_fn_bool); (exact purL_os rfl (by simp) rfl); (exact ho); rfl))
             | (((with_reducible apply go_bx_agg); rfl; rfl; (exact Nat.le_of_ble_eq_true rfl); rfl; rfl))
             | (((with_reducible apply go_bs2_agg); rfl; rfl; rfl; rfl; rfl; rfl; rfl; rfl)))
           | ((with_reducible (show evOps _ _ _ _ _ _)); first
             | (with_reducible apply go_nil))
           | ((with_reducible (show evG _ _ _ _ _)); first
             | (with_reducible apply go_seq)
             | (with_reducible apply go_region)
             | ((with_reducible apply go_cond_t); rfl; rfl)
             | ((with_reducible apply go_cond_f); rfl; rfl)
             | (with_reducible apply go_ret)
             | (with_reducible apply go_skipc))
           | (with_reducible apply go_kseq)
           | (with_reducible apply go_kseq_ret)
           | ((with_reducible apply end_t2); rfl; rfl; rfl; rfl)
    all_goals first | rfl | (exfalso; omega)
  rw [hab] at ho
  obtain ⟨oa, ob⟩ := ok2 hab
  by_cases hord : b.x < a.x ∨ b.y < a.y
  · have e : touchX l a b = (false, 9) := by rw [touchX, if_neg (by omega), if_neg (by rw [hab]; simp), if_pos hord]
    rw [e]
    refine contract_of mix Try.func57 rfl rfl (by rw [Try.ntmps57]; exact Nat.le_of_ble_eq_true rfl) ?_; rw [Try.results57, Try.ntmps57]; simp only [argsE, Nat.reduceAdd]
    repeat' first
           | (with_reducible apply go_op)
           | (with_reducible apply go_next)
           | ((with_reducible (show evOp _ _ _ _ _ _)); first
             | ((with_reducible (show evOp _ (.move _) _ _ _ _)) ; first | ((with_reducible apply go_mv_int); rfl; rfl) | ((with_reducible apply go_mv_bool); rfl; rfl) | ((with_reducible apply go_mv_sl); rfl; rfl))
             | ((with_reducible apply go_as))
             | ((with_reducible (show evOp _ (.load _ _) _ _ _ _)) ; first | ((with_reducible apply go_ld_agg); rfl; rfl; rfl; rfl) | ((with_reducible apply go_load_own); rfl; rfl; rfl; rfl))
             | (((with_reducible apply go_fieldAddr_own); rfl; rfl; rfl))
             | (((with_reducible apply go_cmp); rfl; rfl; rfl; rfl))
             | ((with_reducible (show evOp _ (.call _) _ _ _ _)) ; first | ((with_reducible apply go_fn_int); rfl; (exact hC); rfl) | ((with_reducible apply go_fn_bool); (exact purL_os rfl (by simp) rfl); (exact ho); rfl))
             | (((with_reducible apply go_st_agg); rfl; rfl; rfl; rfl; rfl; rfl; rfl))
             | (((with_reducible apply go_pick); rfl; rfl; rfl))
             | ((with_reducible (show evOp _ (.build _ _) _ _ _ _)) ; first | ((with_reducible apply go_bd2_int); rfl; rfl; rfl; rfl) | ((with_reducible apply go_build); rfl; rfl))
             | (((with_reducible apply go_bx_agg); rfl; rfl; (exact Nat.le_of_ble_eq_true rfl); rfl; rfl))
             | (((with_reducible apply go_alloc); rfl; rfl; rfl))
             | (((with_reducible apply go_bs2_agg); rfl; rfl; rfl; rfl; rfl; rfl; rfl; rfl)))
           | ((with_reducible (show evOps _ _ _ _ _ _)); first
             | (with_reducible apply go_nil)
             | ((with_reducible apply go_run); rfl; rfl)
             | ((with_reducible apply go_pass); rfl; rfl; rfl)
             | (((with_reducible apply go_guard); rfl) <;> (intro h; simp only [h, Bool.not_true, Bool.not_false]; (try with_reducible (refine ⟨rfl, ?_⟩)); try simp only [decide_eq_true_eq, decide_eq_false_iff_not, Bool.not_eq_true', Bool.not_eq_false', Bool.not_true, Bool.not_false] at h; try exact absurd trivial h)))
           | ((with_reducible (show evG _ _ _ _ _)); first
             | (with_reducible apply go_seq)
             | (with_reducible apply go_region)
             | ((with_reducible apply go_cond_t); rfl; rfl)
             | ((with_reducible apply go_cond_f); rfl; rfl)
             | (((with_reducible apply go_cond); rfl) <;> (intro h; simp only [h]; try simp only [decide_eq_true_eq, decide_eq_false_iff_not, Bool.not_eq_true', Bool.not_eq_false', Bool.not_true, Bool.not_false] at h; try exact absurd trivial h))
             | (with_reducible apply go_ret)
             | (with_reducible apply go_skipc)
             | (with_reducible apply go_block))
           | (with_reducible apply go_kseq)
           | (with_reducible apply go_kseq_ret)
           | ((with_reducible apply end_t2); rfl; rfl; rfl; rfl)
    all_goals first | rfl | (exfalso; omega)
  have e : touchX l a b = (touchE l a b, 0) := by rw [touchX, if_neg (by omega), if_neg (by rw [hab]; simp), if_neg hord]
  rw [e]
  have h0 : 0 < l.length := by omega
  have hbo := box_ok oa ob
  have ins := fun p hp => c_inside l h0 (by omega) hok p hp
  have i0 := ins a oa
  have i1 := ins ⟨b.x, a.y⟩ (hbo _ (by simp [boxL]))
  have i2 := ins b ob
  have i3 := ins ⟨a.x, b.y⟩ (hbo _ (by simp [boxL]))
  refine contract_of mix Try.func57 rfl rfl (by rw [Try.ntmps57]; exact Nat.le_of_ble_eq_true rfl) ?_; rw [Try.results57, Try.ntmps57]; simp only [argsE, Nat.reduceAdd]
  repeat' first
           | (with_reducible apply go_op)
           | (with_reducible apply go_next)
           | ((with_reducible (show evOp _ _ _ _ _ _)); first
             | ((with_reducible (show evOp _ (.move _) _ _ _ _)) ; first | ((with_reducible apply go_mv_int); rfl; rfl) | ((with_reducible apply go_mv_bool); rfl; rfl) | ((with_reducible apply go_mv_sl); rfl; rfl))
             | ((with_reducible apply go_as))
             | ((with_reducible (show evOp _ (.load _ _) _ _ _ _)) ; first | ((with_reducible apply go_ld_agg); rfl; rfl; rfl; rfl) | ((with_reducible apply go_load_own); rfl; rfl; rfl; rfl))
             | (((with_reducible apply go_fieldAddr_own); rfl; rfl; rfl))
             | (((with_reducible apply go_cmp); rfl; rfl; rfl; rfl))
             | ((with_reducible (show evOp _ (.call _) _ _ _ _)) ; first | ((with_reducible apply go_fn_int); rfl; (exact hC); rfl) | ((with_reducible apply go_fn_bool); (exact purL_os rfl (by simp) rfl); (exact ho); rfl))
             | (((with_reducible apply go_st_agg); rfl; rfl; rfl; rfl; rfl; rfl; rfl))
             | (((with_reducible apply go_pick); rfl; rfl; rfl))
             | ((with_reducible (show evOp _ (.build _ _) _ _ _ _)) ; first | ((with_reducible apply go_bd2_int); rfl; rfl; rfl; rfl) | ((with_reducible apply go_build); rfl; rfl))
             | (((with_reducible apply go_bx_agg); rfl; rfl; (exact Nat.le_of_ble_eq_true rfl); rfl; rfl))
             | (((with_reducible apply go_alloc); rfl; rfl; rfl))
             | (((with_reducible apply go_bs2_agg); rfl; rfl; rfl; rfl; rfl; rfl; rfl; rfl)))
           | ((with_reducible (show evOps _ _ _ _ _ _)); first
             | (with_reducible apply go_nil)
             | ((with_reducible apply go_run); rfl; rfl)
             | ((with_reducible apply go_pass); rfl; rfl; rfl)
             | (((with_reducible apply go_guard); rfl) <;> (intro h; simp only [h, Bool.not_true, Bool.not_false]; (try with_reducible (refine ⟨rfl, ?_⟩)); try simp only [decide_eq_true_eq, decide_eq_false_iff_not, Bool.not_eq_true', Bool.not_eq_false', Bool.not_true, Bool.not_false] at h; try exact absurd trivial h)))
           | ((with_reducible (show evG _ _ _ _ _)); first
             | (with_reducible apply go_seq)
             | (with_reducible apply go_region)
             | ((with_reducible apply go_cond_t); rfl; rfl)
             | ((with_reducible apply go_cond_f); rfl; rfl)
             | (((with_reducible apply go_cond); rfl) <;> (intro h; simp only [h]; try simp only [decide_eq_true_eq, decide_eq_false_iff_not, Bool.not_eq_true', Bool.not_eq_false', Bool.not_true, Bool.not_false] at h; try exact absurd trivial h))
             | (with_reducible apply go_ret)
             | (with_reducible apply go_skipc)
             | (with_reducible apply go_block))
           | (with_reducible apply go_kseq)
           | (with_reducible apply go_kseq_ret)
           | ((with_reducible apply end_t2); rfl; rfl; rfl; rfl)
  all_goals try (exfalso; omega)
  refine go_count 4 (fun i => ⟨[(50, .int .i64 i), (49, .agg (encT4b a b)), (4, .op 0 0 0), (5, .op 1 0 0), (9, .op 2 0 0), (0, .sl (l.map encPt))], [(0, ⟨2, true, [encPt a]⟩), (1, ⟨2, true, [encPt b]⟩), (2, ⟨8, true, [encT4b a b]⟩)], 32, 110⟩) (fun i => ∀ k, k < i → k < 4 → boxIn l a b k = false)
    (entails_eq (nx := 32) (k := 0) (ns := []) (ks := [50, 49, 4, 5, 9, 0]) [(0, 0), (32, 1), (1216, 2)] rfl (by simp) (by kernel_rfl)) (by omega) ?_
  intro i hi hC1
  have hc4 : i = 0 ∨ i = 1 ∨ i = 2 ∨ i = 3 ∨ i = 4 := by omega
  have hnext : ∀ {m : Nat} {p : Pt}, (∀ k, k < m → k < 4 → boxIn l a b k = false) → cornerP (boxL a b) m = p → ¬ 0 ≤ insE l p → ∀ k, k < m + 1 → k < 4 → boxIn l a b k = false := fun {m p} h e hp k hk hk4 => by
    rcases Nat.lt_succ_iff_lt_or_eq.1 hk with h' | rfl
    · exact h k h' hk4
    · rw [boxIn, e]; exact decide_eq_false hp
  have hyes : ∀ {m : Nat} {p : Pt}, m < 4 → cornerP (boxL a b) m = p → 0 ≤ insE l p → touchE l a b = true := fun {m p} h e hp => touch_box h (by rw [boxIn, e]; exact decide_eq_true hp)
  rcases hc4 with rfl | rfl | rfl | rfl | rfl
  · repeat' first
           | (with_reducible apply go_op)
           | (with_reducible apply go_next)
           | ((with_reducible (show evOp _ _ _ _ _ _)); first
             | ((with_reducible (show evOp _ (.move _) _ _ _ _)) ; first | ((with_reducible apply go_mv_int); rfl; rfl) | ((with_reducible apply go_mv_bool); rfl; rfl) | ((with_reducible apply go_mv_sl); rfl; rfl))
             | ((with_reducible apply go_as))
             | (((with_reducible apply go_ld_agg); rfl; rfl; rfl; rfl))
             | ((with_reducible (show evOp _ (.binOp _ _ _ _ _) _ _ _ _)) ; first | ((with_reducible apply go_cmp); rfl; rfl; rfl; rfl) | ((with_reducible apply go_add); rfl; rfl; rfl; omega))
             | (((with_reducible apply go_fn_int); rfl; (exact i0); rfl))
             | (((with_reducible apply go_st_agg); rfl; rfl; rfl; rfl; rfl; rfl; rfl))
             | (((with_reducible apply go_index_agg); rfl; rfl; rfl; omega; rfl))
             | (((with_reducible apply go_alloc); rfl; rfl; rfl)))
           | ((with_reducible (show evOps _ _ _ _ _ _)); first
             | (with_reducible apply go_nil))
           | ((with_reducible (show evG _ _ _ _ _)); first
             | (with_reducible apply go_seq)
             | (with_reducible apply go_region)
             | ((with_reducible apply go_cond_t); rfl; rfl)
             | (((with_reducible apply go_cond); rfl) <;> (intro h; simp only [h]; try simp only [decide_eq_true_eq, decide_eq_false_iff_not, Bool.not_eq_true', Bool.not_eq_false', Bool.not_true, Bool.not_false] at h; try exact absurd trivial h))
             | (with_reducible apply go_ret)
             | (with_reducible apply go_skipc)
             | (with_reducible apply go_block))
           | (with_reducible apply go_kseq)
           | (with_reducible apply go_kseq_ret)
           | (with_reducible apply go_kblock)
           | (with_reducible apply go_kblock_ret)
           | ((with_reducible apply end_t2); rfl; rfl; rfl; rfl)
    · rw [hyes (m := 0) (by omega) rfl (by assumption)]; rfl
    · exact ⟨by omega, hnext hC1 rfl (by assumption), entails_eq (nx := 32) (k := 0) (ns := []) (ks := [50, 49, 4, 5, 9, 0]) [(0, 0), (1, 1), (2, 2)] rfl (by simp) (by kernel_rfl)⟩
  · repeat' first
           | (with_reducible apply go_op)
           | (with_reducible apply go_next)
           | ((with_reducible (show evOp _ _ _ _ _ _)); first
             | ((with_reducible (show evOp _ (.move _) _ _ _ _)) ; first | ((with_reducible apply go_mv_int); rfl; rfl) | ((with_reducible apply go_mv_bool); rfl; rfl) | ((with_reducible apply go_mv_sl); rfl; rfl))
             | ((with_reducible apply go_as))
             | (((with_reducible apply go_ld_agg); rfl; rfl; rfl; rfl))
             | ((with_reducible (show evOp _ (.binOp _ _ _ _ _) _ _ _ _)) ; first | ((with_reducible apply go_cmp); rfl; rfl; rfl; rfl) | ((with_reducible apply go_add); rfl; rfl; rfl; omega))
             | (((with_reducible apply go_fn_int); rfl; (exact i1); rfl))
             | (((with_reducible apply go_st_agg); rfl; rfl; rfl; rfl; rfl; rfl; rfl))
             | (((with_reducible apply go_index_agg); rfl; rfl; rfl; omega; rfl))
             | (((with_reducible apply go_alloc); rfl; rfl; rfl)))
           | ((with_reducible (show evOps _ _ _ _ _ _)); first
             | (with_reducible apply go_nil))
           | ((with_reducible (show evG _ _ _ _ _)); first
             | (with_reducible apply go_seq)
             | (with_reducible apply go_region)
             | ((with_reducible apply go_cond_t); rfl; rfl)
             | (((with_reducible apply go_cond); rfl) <;> (intro h; simp only [h]; try simp only [decide_eq_true_eq, decide_eq_false_iff_not, Bool.not_eq_true', Bool.not_eq_false', Bool.not_true, Bool.not_false] at h; try exact absurd trivial h))
             | (with_reducible apply go_ret)
             | (with_reducible apply go_skipc)
             | (with_reducible apply go_block))
           | (with_reducible apply go_kseq)
           | (with_reducible apply go_kseq_ret)
           | (with_reducible apply go_kblock)
           | (with_reducible apply go_kblock_ret)
           | ((with_reducible apply end_t2); rfl; rfl; rfl; rfl)
    · rw [hyes (m := 1) (by omega) rfl (by assumption)]; rfl
    · exact ⟨by omega, hnext hC1 rfl (by assumption), entails_eq (nx := 32) (k := 0) (ns := []) (ks := [50, 49, 4, 5, 9, 0]) [(0, 0), (1, 1), (2, 2)] rfl (by simp) (by kernel_rfl)⟩
  · repeat' first
           | (with_reducible apply go_op)
           | (with_reducible apply go_next)
           | ((with_reducible (show evOp _ _ _ _ _ _)); first
             | ((with_reducible (show evOp _ (.move _) _ _ _ _)) ; first | ((with_reducible apply go_mv_int); rfl; rfl) | ((with_reducible apply go_mv_bool); rfl; rfl) | ((with_reducible apply go_mv_sl); rfl; rfl))
             | ((with_reducible apply go_as))
             | (((with_reducible apply go_ld_agg); rfl; rfl; rfl; rfl))
             | ((with_reducible (show evOp _ (.binOp _ _ _ _ _) _ _ _ _)) ; first | ((with_reducible apply go_cmp); rfl; rfl; rfl; rfl) | ((with_reducible apply go_add); rfl; rfl; rfl; omega))
             | (((with_reducible apply go_fn_int); rfl; (exact i2); rfl))
             | (((with_reducible apply go_st_agg); rfl; rfl; rfl; rfl; rfl; rfl; rfl))
             | (((with_reducible apply go_index_agg); rfl; rfl; rfl; omega; rfl))
             | (((with_reducible apply go_alloc); rfl; rfl; rfl)))
           | ((with_reducible (show evOps _ _ _ _ _ _)); first
             | (with_reducible apply go_nil))
           | ((with_reducible (show evG _ _ _ _ _)); first
             | (with_reducible apply go_seq)
             | (with_reducible apply go_region)
             | ((with_reducible apply go_cond_t); rfl; rfl)
             | (((with_reducible apply go_cond); rfl) <;> (intro h; simp only [h]; try simp only [decide_eq_true_eq, decide_eq_false_iff_not, Bool.not_eq_true', Bool.not_eq_false', Bool.not_true, Bool.not_false] at h; try exact absurd trivial h))
             | (with_reducible apply go_ret)
             | (with_reducible apply go_skipc)
             | (with_reducible apply go_block))
           | (with_reducible apply go_kseq)
           | (with_reducible apply go_kseq_ret)
           | (with_reducible apply go_kblock)
           | (with_reducible apply go_kblock_ret)
           | ((with_reducible apply end_t2); rfl; rfl; rfl; rfl)
    · rw [hyes (m := 2) (by omega) rfl (by assumption)]; rfl
    · exact ⟨by omega, hnext hC1 rfl (by assumption), entails_eq (nx := 32) (k := 0) (ns := []) (ks := [50, 49, 4, 5, 9, 0]) [(0, 0), (1, 1), (2, 2)] rfl (by simp) (by kernel_rfl)⟩
  · repeat' first
           | (with_reducible apply go_op)
           | (with_reducible apply go_next)
           | ((with_reducible (show evOp _ _ _ _ _ _)); first
             | ((with_reducible (show evOp _ (.move _) _ _ _ _)) ; first | ((with_reducible apply go_mv_int); rfl; rfl) | ((with_reducible apply go_mv_bool); rfl; rfl) | ((with_reducible apply go_mv_sl); rfl; rfl))
             | ((with_reducible apply go_as))
             | (((with_reducible apply go_ld_agg); rfl; rfl; rfl; rfl))
             | ((with_reducible (show evOp _ (.binOp _ _ _ _ _) _ _ _ _)) ; first | ((with_reducible apply go_cmp); rfl; rfl; rfl; rfl) | ((with_reducible apply go_add); rfl; rfl; rfl; omega))
             | (((with_reducible apply go_fn_int); rfl; (exact i3); rfl))
             | (((with_reducible apply go_st_agg); rfl; rfl; rfl; rfl; rfl; rfl; rfl))
             | (((with_reducible apply go_index_agg); rfl; rfl; rfl; omega; rfl))
             | (((with_reducible apply go_alloc); rfl; rfl; rfl)))
           | ((with_reducible (show evOps _ _ _ _ _ _)); first
             | (with_reducible apply go_nil))
           | ((with_reducible (show evG _ _ _ _ _)); first
             | (with_reducible apply go_seq)
             | (with_reducible apply go_region)
             | ((with_reducible apply go_cond_t); rfl; rfl)
             | (((with_reducible apply go_cond); rfl) <;> (intro h; simp only [h]; try simp only [decide_eq_true_eq, decide_eq_false_iff_not, Bool.not_eq_true', Bool.not_eq_false', Bool.not_true, Bool.not_false] at h; try exact absurd trivial h))
             | (with_reducible apply go_ret)
             | (with_reducible apply go_skipc)
             | (with_reducible apply go_block))
           | (with_reducible apply go_kseq)
           | (with_reducible apply go_kseq_ret)
           | (with_reducible apply go_kblock)
           | (with_reducible apply go_kblock_ret)
           | ((with_reducible apply end_t2); rfl; rfl; rfl; rfl)
    · rw [hyes (m := 3) (by omega) rfl (by assumption)]; rfl
    · exact ⟨by omega, hnext hC1 rfl (by assumption), entails_eq (nx := 32) (k := 0) (ns := []) (ks := [50, 49, 4, 5, 9, 0]) [(0, 0), (1, 1), (2, 2)] rfl (by simp) (by kernel_rfl)⟩
  repeat' first
           | (with_reducible apply go_op)
           | (with_reducible apply go_next)
           | ((with_reducible (show evOp _ _ _ _ _ _)); first
             | ((with_reducible (show evOp _ (.move _) _ _ _ _)) ; first | ((with_reducible apply go_mv_int); rfl; rfl) | ((with_reducible apply go_mv_sl); rfl; rfl))
             | (((with_reducible apply go_cmp); rfl; rfl; rfl; rfl))
             | (((with_reducible apply go_len); rfl; rfl)))
           | ((with_reducible (show evOps _ _ _ _ _ _)); first
             | (with_reducible apply go_nil))
           | ((with_reducible (show evG _ _ _ _ _)); first
             | (with_reducible apply go_seq)
             | (with_reducible apply go_region)
             | ((with_reducible apply go_cond_f); rfl; rfl)
             | (with_reducible apply go_block)
             | (with_reducible apply go_exit))
           | (with_reducible apply go_kseq)
           | (with_reducible apply go_kblock_exit)
           | (with_reducible apply go_kseq_exit)
  refine go_count l.length (fun i => ⟨[(60, .int .i64 i), (59, .int .i64 l.length), (58, .sl (l.map encPt)), (4, .op 0 0 0), (5, .op 1 0 0), (9, .op 2 0 0), (0, .sl (l.map encPt))], [(0, ⟨2, true, [encPt a]⟩), (1, ⟨2, true, [encPt b]⟩), (2, ⟨8, true, [encT4b a b]⟩)], 32, 110⟩) (fun i => ∀ j, j < i → inBox a b (cornerP l j) = false ∧ ∀ k, k < 4 → edgeHit l a b j k = false)
    (entails_eq (nx := 32) (k := 0) (ns := []) (ks := [60, 59, 58, 4, 5, 9, 0]) [(0, 0), (1, 1), (2, 2)] rfl (by simp) (by kernel_rfl)) (by omega) ?_
  intro i hi hC
  by_cases h2 : i < l.length
  rotate_left
  · rw [touch_no (fun k hk => hC1 k hk hk) fun j hj => hC j (by omega)]
    repeat' first
           | (with_reducible apply go_op)
           | (with_reducible apply go_next)
           | ((with_reducible (show evOp _ _ _ _ _ _)); first
             | ((with_reducible (show evOp _ (.move _) _ _ _ _)) ; first | ((with_reducible apply go_mv_int); rfl; rfl) | ((with_reducible apply go_mv_bool); rfl; rfl))
             | ((with_reducible apply go_as))
             | ((with_reducible (show evOp _ (.load _ _) _ _ _ _)) ; first | ((with_reducible apply go_ld_ptr); rfl; rfl; rfl) | ((with_reducible apply go_load_own); rfl; rfl; rfl; rfl))
             | (((with_reducible apply go_fieldAddr_own); rfl; rfl; rfl))
             | (((with_reducible apply go_index_nat); rfl; rfl; (with_reducible rfl); (intro; rfl); rfl; omega; (intro hlt)))
             | (((with_reducible apply go_cmp); rfl; rfl; rfl; rfl))
             | (((with_reducible apply go_st_agg); rfl; rfl; rfl; rfl; rfl; rfl; rfl))
             | (((with_reducible apply go_pick); rfl; rfl; rfl))
             | (((with_reducible apply go_alloc); rfl; rfl; rfl)))
           | ((with_reducible (show evOps _ _ _ _ _ _)); first
             | (with_reducible apply go_nil)
             | ((with_reducible apply go_run); rfl; rfl)
             | ((with_reducible apply go_pass); rfl; rfl; rfl)
             | (((with_reducible apply go_guard); rfl) <;> (intro h; simp only [h, Bool.not_true, Bool.not_false]; (try with_reducible (refine ⟨rfl, ?_⟩)); try simp only [decide_eq_true_eq, decide_eq_false_iff_not, Bool.not_eq_true', Bool.not_eq_false', Bool.not_true, Bool.not_false] at h; try exact absurd trivial h)))
           | ((with_reducible (show evG _ _ _ _ _)); first
             | (with_reducible apply go_seq)
             | (with_reducible apply go_region)
             | ((with_reducible apply go_cond_f); rfl; rfl)
             | (((with_reducible apply go_cond); rfl) <;> (intro h; simp only [h]; try simp only [decide_eq_true_eq, decide_eq_false_iff_not, Bool.not_eq_true', Bool.not_eq_false', Bool.not_true, Bool.not_false] at h; try exact absurd trivial h))
             | (with_reducible apply go_ret)
             | (with_reducible apply go_skipc)
             | (with_reducible apply go_block)
             | (with_reducible apply go_exit))
           | (with_reducible apply go_kseq)
           | (with_reducible apply go_kseq_ret)
           | (with_reducible apply go_kblock_ret)
           | (with_reducible apply go_kblock_exit)
           | (with_reducible apply go_kseq_exit)
           | ((with_reducible apply end_t2); rfl; rfl; rfl; rfl)
    all_goals first | (exfalso; omega) | rfl | trace_state
  have ec := cornerP_lt h2
  have o0 : ptOK l[i] = true := hok _ (List.getElem_mem h2)
  have o1 := hok _ (cornerP_mem h0 (i + 1))
  have k1 : Contract Try.prog 89 [.sl (l.map encPt), .int .i64 ((i : Int) + 1)] (.ret (.agg (encPt (cornerP l (i + 1))))) := c_corner l h0 (by omega) (i + 1)
  have hCi : ∀ j, j < i → inBox a b (cornerP l j) = false ∧ ∀ k, k < 4 → edgeHit l a b j k = false := hC
  have hIn : inBox a b l[i] = true → touchE l a b = true := fun h => touch_in h2 (by rw [ec]; exact h)
  have hEd : ∀ k, edgeHit l a b i k = meetE l[i] (cornerP l (i + 1)) (cornerP (boxL a b) k) (cornerP (boxL a b) (k + 1)) := fun k => by rw [edgeHit, ec]
  have m0 := c_meet l[i] (cornerP l (i + 1)) a ⟨b.x, a.y⟩ o0 o1 oa (hbo _ (by simp [boxL]))
  have m1 := c_meet l[i] (cornerP l (i + 1)) ⟨b.x, a.y⟩ b o0 o1 (hbo _ (by simp [boxL])) ob
  have m2 := c_meet l[i] (cornerP l (i + 1)) b ⟨a.x, b.y⟩ o0 o1 ob (hbo _ (by simp [boxL]))
  have m3 := c_meet l[i] (cornerP l (i + 1)) ⟨a.x, b.y⟩ a o0 o1 (hbo _ (by simp [boxL])) oa
  have hHit : ∀ k, k < 4 → meetE l[i] (cornerP l (i + 1)) (cornerP (boxL a b) k) (cornerP (boxL a b) (k + 1)) = true → touchE l a b = true := fun k hk h => touch_hit h2 hk (by rw [hEd]; exact h)
  generalize hd : cornerP l (i + 1) = d at *
  repeat' first
           | (with_reducible apply go_op)
           | (with_reducible apply go_next)
           | ((with_reducible (show evOp _ _ _ _ _ _)); first
             | ((with_reducible (show evOp _ (.move _) _ _ _ _)) ; first | ((with_reducible apply go_mv_int); rfl; rfl) | ((with_reducible apply go_mv_bool); rfl; rfl))
             | ((with_reducible apply go_as))
             | ((with_reducible (show evOp _ (.load _ _) _ _ _ _)) ; first | ((with_reducible apply go_ld_ptr); rfl; rfl; rfl) | ((with_reducible apply go_load_own); rfl; rfl; rfl; rfl))
             | (((with_reducible apply go_fieldAddr_own); rfl; rfl; rfl))
             | (((with_reducible apply go_index_nat); rfl; rfl; (with_reducible rfl); (intro; rfl); rfl; omega; (intro hlt)))
             | (((with_reducible apply go_cmp); rfl; rfl; rfl; rfl))
             | (((with_reducible apply go_st_agg); rfl; rfl; rfl; rfl; rfl; rfl; rfl))
             | (((with_reducible apply go_pick); rfl; rfl; rfl))
             | (((with_reducible apply go_alloc); rfl; rfl; rfl)))
           | ((with_reducible (show evOps _ _ _ _ _ _)); first
             | (with_reducible apply go_nil)
             | ((with_reducible apply go_run); rfl; rfl)
             | ((with_reducible apply go_pass); rfl; rfl; rfl)
             | (((with_reducible apply go_guard); rfl) <;> (intro h; simp only [h, Bool.not_true, Bool.not_false]; (try with_reducible (refine ⟨rfl, ?_⟩)); try simp only [decide_eq_true_eq, decide_eq_false_iff_not, Bool.not_eq_true', Bool.not_eq_false', Bool.not_true, Bool.not_false] at h; try exact absurd trivial h)))
           | ((with_reducible (show evG _ _ _ _ _)); first
             | (with_reducible apply go_seq)
             | (with_reducible apply go_region)
             | ((with_reducible apply go_cond_f); rfl; rfl)
             | (((with_reducible apply go_cond); rfl) <;> (intro h; simp only [h]; try simp only [decide_eq_true_eq, decide_eq_false_iff_not, Bool.not_eq_true', Bool.not_eq_false', Bool.not_true, Bool.not_false] at h; try exact absurd trivial h))
             | (with_reducible apply go_ret)
             | (with_reducible apply go_skipc)
             | (with_reducible apply go_block)
             | (with_reducible apply go_exit))
           | (with_reducible apply go_kseq)
           | (with_reducible apply go_kseq_ret)
           | (with_reducible apply go_kblock_ret)
           | (with_reducible apply go_kblock_exit)
           | (with_reducible apply go_kseq_exit)
           | ((with_reducible apply end_t2); rfl; rfl; rfl; rfl)
  all_goals first
    | (exfalso; omega)
    | (rw [hIn (decide_eq_true (by omega))]; rfl)
    | skip
  all_goals
    have hnb : inBox a b l[i] = false := decide_eq_false (by omega)
    refine go_count 4 (fun k => ⟨[(91, .int .i64 k), (13, .op 3 0 0), (12, .int .i64 i), (60, .int .i64 i), (59, .int .i64 l.length), (58, .sl (l.map encPt)), (4, .op 0 0 0), (5, .op 1 0 0), (9, .op 2 0 0), (0, .sl (l.map encPt))], [(0, ⟨2, true, [encPt a]⟩), (1, ⟨2, true, [encPt b]⟩), (2, ⟨8, true, [encT4b a b]⟩), (3, ⟨2, true, [encPt l[i]]⟩)], 32, 110⟩) (fun k => ∀ k', k' < k → k' < 4 → edgeHit l a b i k' = false)
      (entails_eq (nx := 32) (k := 0) (ns := []) (ks := [91, 13, 12, 60, 59, 58, 4, 5, 9, 0]) [(0, 0), (1, 1), (2, 2), (160, 3)] rfl (by simp) (by kernel_rfl)) (by omega) ?_
    intro k hk hC2
    have hcon : ∀ {m : Nat} {p q : Pt}, (∀ k', k' < m → k' < 4 → edgeHit l a b i k' = false) → cornerP (boxL a b) m = p → cornerP (boxL a b) (m + 1) = q → meetE l[i] d p q = false → ∀ k', k' < m + 1 → k' < 4 → edgeHit l a b i k' = false := fun {m p q} h e1 e2 hm k' hk' hk4 => by
      rcases Nat.lt_succ_iff_lt_or_eq.1 hk' with h' | rfl
      · exact h k' h' hk4
      · rw [hEd, e1, e2]; exact hm
    have hc4 : k = 0 ∨ k = 1 ∨ k = 2 ∨ k = 3 ∨ k = 4 := by omega
    rcases hc4 with rfl | rfl | rfl | rfl | rfl
    · repeat' first
           | (with_reducible apply go_op)
           | (with_reducible apply go_next)
           | ((with_reducible (show evOp _ _ _ _ _ _)); first
             | ((with_reducible (show evOp _ (.move _) _ _ _ _)) ; first | ((with_reducible apply go_mv_int); rfl; rfl) | ((with_reducible apply go_mv_bool); rfl; rfl) | ((with_reducible apply go_mv_sl); rfl; rfl))
             | ((with_reducible apply go_as))
             | ((with_reducible (show evOp _ (.load _ _) _ _ _ _)) ; first | ((with_reducible apply go_ld_agg); rfl; rfl; rfl; rfl) | ((with_reducible apply go_load_own); rfl; rfl; rfl; rfl))
             | (((with_reducible apply go_index_arr); rfl; rfl; rfl; rfl; omega))
             | ((with_reducible (show evOp _ (.binOp _ _ _ _ _) _ _ _ _)) ; first | ((with_reducible apply go_cmp); rfl; rfl; rfl; rfl) | ((with_reducible apply go_add); rfl; rfl; rfl; omega) | ((with_reducible apply go_rem_pos); rfl; rfl; rfl; omega))
             | ((with_reducible (show evOp _ (.call _) _ _ _ _)) ; first | ((with_reducible apply go_fn_plain); rfl; (exact k1); rfl; (exact Nat.le_of_ble_eq_true rfl); rfl) | ((with_reducible apply go_fn_bool); rfl; (exact m0); rfl)))
           | ((with_reducible (show evOps _ _ _ _ _ _)); first
             | (with_reducible apply go_nil)
             | ((with_reducible apply go_pre); rfl)
             | (with_reducible apply go_pre_nil)
             | ((with_reducible apply go_suf); rfl)
             | (with_reducible apply go_suf_nil))
           | ((with_reducible (show evG _ _ _ _ _)); first
             | (with_reducible apply go_seq)
             | (with_reducible apply go_region)
             | ((with_reducible apply go_cond_t); rfl; rfl)
             | (((with_reducible apply go_cond); rfl) <;> (intro h; simp only [h]; try simp only [decide_eq_true_eq, decide_eq_false_iff_not, Bool.not_eq_true', Bool.not_eq_false', Bool.not_true, Bool.not_false] at h; try exact absurd trivial h))
             | ((with_reducible apply go_order); kernel_rfl; rfl)
             | (with_reducible apply go_ret)
             | (with_reducible apply go_skipc)
             | (with_reducible apply go_block))
           | (with_reducible apply go_kseq)
           | (with_reducible apply go_ksuf)
           | (with_reducible apply go_kseq_ret)
           | (with_reducible apply go_kblock)
           | (with_reducible apply go_kblock_ret)
           | ((with_reducible apply end_t2); rfl; rfl; rfl; rfl)
      · rw [hHit 0 (by omega) (by assumption)]; rfl
      · exact ⟨by omega, hcon (m := 0) hC2 rfl rfl (by assumption), entails_eq (nx := 32) (k := 0) (ns := []) (ks := [91, 13, 12, 60, 59, 58, 4, 5, 9, 0]) [(0, 0), (1, 1), (2, 2), (3, 3)] rfl (by simp) (by kernel_rfl)⟩
    · repeat' first
           | (with_reducible apply go_op)
           | (with_reducible apply go_next)
           | ((with_reducible (show evOp _ _ _ _ _ _)); first
             | ((with_reducible (show evOp _ (.move _) _ _ _ _)) ; first | ((with_reducible apply go_mv_int); rfl; rfl) | ((with_reducible apply go_mv_bool); rfl; rfl) | ((with_reducible apply go_mv_sl); rfl; rfl))
             | ((with_reducible apply go_as))
             | ((with_reducible (show evOp _ (.load _ _) _ _ _ _)) ; first | ((with_reducible apply go_ld_agg); rfl; rfl; rfl; rfl) | ((with_reducible apply go_load_own); rfl; rfl; rfl; rfl))
             | (((with_reducible apply go_index_arr); rfl; rfl; rfl; rfl; omega))
             | ((with_reducible (show evOp _ (.binOp _ _ _ _ _) _ _ _ _)) ; first | ((with_reducible apply go_cmp); rfl; rfl; rfl; rfl) | ((with_reducible apply go_add); rfl; rfl; rfl; omega) | ((with_reducible apply go_rem_pos); rfl; rfl; rfl; omega))
             | ((with_reducible (show evOp _ (.call _) _ _ _ _)) ; first | ((with_reducible apply go_fn_plain); rfl; (exact k1); rfl; (exact Nat.le_of_ble_eq_true rfl); rfl) | ((with_reducible apply go_fn_bool); rfl; (exact m1); rfl)))
           | ((with_reducible (show evOps _ _ _ _ _ _)); first
             | (with_reducible apply go_nil)
             | ((with_reducible apply go_pre); rfl)
             | (with_reducible apply go_pre_nil)
             | ((with_reducible apply go_suf); rfl)
             | (with_reducible apply go_suf_nil))
           | ((with_reducible (show evG _ _ _ _ _)); first
             | (with_reducible apply go_seq)
             | (with_reducible apply go_region)
             | ((with_reducible apply go_cond_t); rfl; rfl)
             | (((with_reducible apply go_cond); rfl) <;> (intro h; simp only [h]; try simp only [decide_eq_true_eq, decide_eq_false_iff_not, Bool.not_eq_true', Bool.not_eq_false', Bool.not_true, Bool.not_false] at h; try exact absurd trivial h))
             | ((with_reducible apply go_order); kernel_rfl; rfl)
             | (with_reducible apply go_ret)
             | (with_reducible apply go_skipc)
             | (with_reducible apply go_block))
           | (with_reducible apply go_kseq)
           | (with_reducible apply go_ksuf)
           | (with_reducible apply go_kseq_ret)
           | (with_reducible apply go_kblock)
           | (with_reducible apply go_kblock_ret)
           | ((with_reducible apply end_t2); rfl; rfl; rfl; rfl)
      · rw [hHit 1 (by omega) (by assumption)]; rfl
      · exact ⟨by omega, hcon (m := 1) hC2 rfl rfl (by assumption), entails_eq (nx := 32) (k := 0) (ns := []) (ks := [91, 13, 12, 60, 59, 58, 4, 5, 9, 0]) [(0, 0), (1, 1), (2, 2), (3, 3)] rfl (by simp) (by kernel_rfl)⟩
    · repeat' first
           | (with_reducible apply go_op)
           | (with_reducible apply go_next)
           | ((with_reducible (show evOp _ _ _ _ _ _)); first
             | ((with_reducible (show evOp _ (.move _) _ _ _ _)) ; first | ((with_reducible apply go_mv_int); rfl; rfl) | ((with_reducible apply go_mv_bool); rfl; rfl) | ((with_reducible apply go_mv_sl); rfl; rfl))
             | ((with_reducible apply go_as))
             | ((with_reducible (show evOp _ (.load _ _) _ _ _ _)) ; first | ((with_reducible apply go_ld_agg); rfl; rfl; rfl; rfl) | ((with_reducible apply go_load_own); rfl; rfl; rfl; rfl))
             | (((with_reducible apply go_index_arr); rfl; rfl; rfl; rfl; omega))
             | ((with_reducible (show evOp _ (.binOp _ _ _ _ _) _ _ _ _)) ; first | ((with_reducible apply go_cmp); rfl; rfl; rfl; rfl) | ((with_reducible apply go_add); rfl; rfl; rfl; omega) | ((with_reducible apply go_rem_pos); rfl; rfl; rfl; omega))
             | ((with_reducible (show evOp _ (.call _) _ _ _ _)) ; first | ((with_reducible apply go_fn_plain); rfl; (exact k1); rfl; (exact Nat.le_of_ble_eq_true rfl); rfl) | ((with_reducible apply go_fn_bool); rfl; (exact m2); rfl)))
           | ((with_reducible (show evOps _ _ _ _ _ _)); first
             | (with_reducible apply go_nil)
             | ((with_reducible apply go_pre); rfl)
             | (with_reducible apply go_pre_nil)
             | ((with_reducible apply go_suf); rfl)
             | (with_reducible apply go_suf_nil))
           | ((with_reducible (show evG _ _ _ _ _)); first
             | (with_reducible apply go_seq)
             | (with_reducible apply go_region)
             | ((with_reducible apply go_cond_t); rfl; rfl)
             | (((with_reducible apply go_cond); rfl) <;> (intro h; simp only [h]; try simp only [decide_eq_true_eq, decide_eq_false_iff_not, Bool.not_eq_true', Bool.not_eq_false', Bool.not_true, Bool.not_false] at h; try exact absurd trivial h))
             | ((with_reducible apply go_order); kernel_rfl; rfl)
             | (with_reducible apply go_ret)
             | (with_reducible apply go_skipc)
             | (with_reducible apply go_block))
           | (with_reducible apply go_kseq)
           | (with_reducible apply go_ksuf)
           | (with_reducible apply go_kseq_ret)
           | (with_reducible apply go_kblock)
           | (with_reducible apply go_kblock_ret)
           | ((with_reducible apply end_t2); rfl; rfl; rfl; rfl)
      · rw [hHit 2 (by omega) (by assumption)]; rfl
      · exact ⟨by omega, hcon (m := 2) hC2 rfl rfl (by assumption), entails_eq (nx := 32) (k := 0) (ns := []) (ks := [91, 13, 12, 60, 59, 58, 4, 5, 9, 0]) [(0, 0), (1, 1), (2, 2), (3, 3)] rfl (by simp) (by kernel_rfl)⟩
    · repeat' first
           | (with_reducible apply go_op)
           | (with_reducible apply go_next)
           | ((with_reducible (show evOp _ _ _ _ _ _)); first
             | ((with_reducible (show evOp _ (.move _) _ _ _ _)) ; first | ((with_reducible apply go_mv_int); rfl; rfl) | ((with_reducible apply go_mv_bool); rfl; rfl) | ((with_reducible apply go_mv_sl); rfl; rfl))
             | ((with_reducible apply go_as))
             | ((with_reducible (show evOp _ (.load _ _) _ _ _ _)) ; first | ((with_reducible apply go_ld_agg); rfl; rfl; rfl; rfl) | ((with_reducible apply go_load_own); rfl; rfl; rfl; rfl))
             | (((with_reducible apply go_index_arr); rfl; rfl; rfl; rfl; omega))
             | ((with_reducible (show evOp _ (.binOp _ _ _ _ _) _ _ _ _)) ; first | ((with_reducible apply go_cmp); rfl; rfl; rfl; rfl) | ((with_reducible apply go_add); rfl; rfl; rfl; omega) | ((with_reducible apply go_rem_pos); rfl; rfl; rfl; omega))
             | ((with_reducible (show evOp _ (.call _) _ _ _ _)) ; first | ((with_reducible apply go_fn_plain); rfl; (exact k1); rfl; (exact Nat.le_of_ble_eq_true rfl); rfl) | ((with_reducible apply go_fn_bool); rfl; (exact m3); rfl)))
           | ((with_reducible (show evOps _ _ _ _ _ _)); first
             | (with_reducible apply go_nil)
             | ((with_reducible apply go_pre); rfl)
             | (with_reducible apply go_pre_nil)
             | ((with_reducible apply go_suf); rfl)
             | (with_reducible apply go_suf_nil))
           | ((with_reducible (show evG _ _ _ _ _)); first
             | (with_reducible apply go_seq)
             | (with_reducible apply go_region)
             | ((with_reducible apply go_cond_t); rfl; rfl)
             | (((with_reducible apply go_cond); rfl) <;> (intro h; simp only [h]; try simp only [decide_eq_true_eq, decide_eq_false_iff_not, Bool.not_eq_true', Bool.not_eq_false', Bool.not_true, Bool.not_false] at h; try exact absurd trivial h))
             | ((with_reducible apply go_order); kernel_rfl; rfl)
             | (with_reducible apply go_ret)
             | (with_reducible apply go_skipc)
             | (with_reducible apply go_block))
           | (with_reducible apply go_kseq)
           | (with_reducible apply go_ksuf)
           | (with_reducible apply go_kseq_ret)
           | (with_reducible apply go_kblock)
           | (with_reducible apply go_kblock_ret)
           | ((with_reducible apply end_t2); rfl; rfl; rfl; rfl)
      · rw [hHit 3 (by omega) (by rw [box3, show 3 + 1 = 4 from rfl, box4]; assumption)]; rfl
      · exact ⟨by omega, hcon (m := 3) (p := ⟨a.x, b.y⟩) (q := a) hC2 (box3 a b) (box4 a b) (by assumption), entails_eq (nx := 32) (k := 0) (ns := []) (ks := [91, 13, 12, 60, 59, 58, 4, 5, 9, 0]) [(0, 0), (1, 1), (2, 2), (3, 3)] rfl (by simp) (by kernel_rfl)⟩
    · repeat' first
           | (with_reducible apply go_op)
           | (with_reducible apply go_next)
           | ((with_reducible (show evOp _ _ _ _ _ _)); first
             | (((with_reducible apply go_mv_int); rfl; rfl))
             | ((with_reducible (show evOp _ (.binOp _ _ _ _ _) _ _ _ _)) ; first | ((with_reducible apply go_cmp); rfl; rfl; rfl; rfl) | ((with_reducible apply go_add); rfl; rfl; rfl; omega)))
           | ((with_reducible (show evOps _ _ _ _ _ _)); first
             | (with_reducible apply go_nil))
           | ((with_reducible (show evG _ _ _ _ _)); first
             | (with_reducible apply go_seq)
             | (with_reducible apply go_region)
             | ((with_reducible apply go_cond_f); rfl; rfl)
             | (with_reducible apply go_exit))
           | (with_reducible apply go_kseq)
           | (with_reducible apply go_kblock)
           | (with_reducible apply go_kblock_exit)
           | (with_reducible apply go_kseq_exit)
      refine ⟨h2, fun j hj => ?_, entails_eq (nx := 32) (k := 0) (ns := []) (ks := [60, 59, 58, 4, 5, 9, 0]) [(0, 0), (1, 1), (2, 2)] rfl (by simp) (by kernel_rfl)⟩
      rcases Nat.lt_succ_iff_lt_or_eq.1 hj with h' | rfl
      · exact hCi j h'
      · exact ⟨by rw [ec]; exact hnb, fun k' hk' => hC2 k' hk' hk'⟩
end Go.Pv.Geo

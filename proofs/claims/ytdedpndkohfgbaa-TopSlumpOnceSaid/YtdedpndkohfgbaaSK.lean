import Derived.Test.YtdedpndkohfgbaaProg
import Derived.Test.YtdedpndkohfgbaaSJ
import Derived.KernelRfl
/- Part of the proofs over Ytdedpndkohfgbaa: S25, S26, S27, S28, S29. -/
set_option linter.unusedVariables false
set_option linter.unusedSimpArgs false
set_option linter.unnecessarySimpa false
open Go Go.Proofs Go.Pv
set_option maxHeartbeats 2000000
set_option maxRecDepth 100000
set_option linter.unusedSimpArgs false
set_option linter.unusedVariables false
namespace Go.Pv.Soil

theorem c24 (g : Grid) : Contract Try.prog 24 [.agg (encGrid g)] (.ret (.bool (decide (g.levels.length ≤ 30)))) := by
  refine contract_of mix Try.func24 rfl rfl (by rw [Try.ntmps24]; exact Nat.le_of_ble_eq_true rfl) ?_; rw [Try.results24, Try.ntmps24]; simp only [argsE, Nat.reduceAdd]
  repeat' first
           | (with_reducible apply go_op)
           | (with_reducible apply go_next)
           | ((with_reducible (show evOp _ _ _ _ _ _)); first
             | (((with_reducible apply go_mv_bool); rfl; rfl))
             | ((with_reducible apply go_as))
             | (((with_reducible apply go_load_own); rfl; rfl; rfl; rfl))
             | (((with_reducible apply go_fieldAddr_own); rfl; rfl; rfl))
             | (((with_reducible apply go_cmp); rfl; rfl; rfl; rfl))
             | (((with_reducible apply go_len); rfl; rfl))
             | (((with_reducible apply go_bx_agg); rfl; rfl; (exact Nat.le_of_ble_eq_true rfl); rfl; rfl)))
           | ((with_reducible (show evOps _ _ _ _ _ _)); first
             | (with_reducible apply go_nil))
           | ((with_reducible (show ev _ _ _ _)); first
             | (with_reducible apply go_seq)
             | (with_reducible apply go_region)
             | (with_reducible apply go_ret))
           | (with_reducible apply go_kseq)
           | ((with_reducible apply end_bool); rfl)
  all_goals first | rfl | exact decide_eq_decide.2 (by omega)

/-- The first number of a list that is not 0, or 0. -/
def firstOf : List Int → Int
  | [] => 0
  | x :: l => if x ≠ 0 then x else firstOf l
theorem firstOf_at : ∀ {l : List Int} {i : Nat} (hi : i < l.length), l[i] ≠ 0 → (∀ j (hj : j < i), l[j] = 0) → firstOf l = l[i]
  | x :: l, 0, _, h, _ => by rw [firstOf, if_pos (by simpa using h)]; rfl
  | x :: l, i + 1, hi, h, hb => by
    rw [firstOf, if_neg (by simpa using hb 0 (by omega))]
    exact firstOf_at (l := l) (by simpa using hi) (by simpa using h) fun j hj => by simpa using hb (j + 1) (by omega)
theorem firstOf_none : ∀ {l : List Int}, (∀ j (hj : j < l.length), l[j] = 0) → firstOf l = 0
  | [], _ => rfl
  | x :: l, hb => by
    have h0 : x = 0 := hb 0 (by simp)
    rw [firstOf, if_neg (by simp [h0])]
    exact firstOf_none fun j hj => hb (j + 1) (by simpa using hj)

theorem c27 (l : List Int) (hl : l.length < 1000000000000) : Contract Try.prog 27 [.sl (l.map encInt)] (.ret (.int .i64 (firstOf l))) := by
  refine contract_of mix Try.func27 rfl rfl (by rw [Try.ntmps27]; exact Nat.le_of_ble_eq_true rfl) ?_; rw [Try.results27, Try.ntmps27]; simp only [argsE, Nat.reduceAdd]
  repeat' first
           | (with_reducible apply go_op)
           | (with_reducible apply go_next)
           | ((with_reducible (show evOp _ _ _ _ _ _)); first
             | (((with_reducible apply go_mv_int); rfl; rfl))
             | ((with_reducible apply go_as)))
           | ((with_reducible (show evOps _ _ _ _ _ _)); first
             | (with_reducible apply go_nil))
           | ((with_reducible (show ev _ _ _ _)); first
             | (with_reducible apply go_seq)
             | (with_reducible apply go_region)
             | (with_reducible apply go_block))
           | (with_reducible apply go_kseq)
  refine go_count (l.length) (fun i => ⟨[(3, .int .i64 i), (0, .sl (l.map encInt))], [], 0, 19⟩) (fun i => ∀ j (hj : j < i) (hj' : j < l.length), l[j] = 0) (entails_eq (k := 0) (ns := []) (ks := [3, 0]) [] rfl (by simp) rfl) (by omega) ?_
  intro i hi hC
  repeat' first
           | (with_reducible apply go_op)
           | (with_reducible apply go_next)
           | ((with_reducible (show evOp _ _ _ _ _ _)); first
             | ((with_reducible (show evOp _ (.move _) _ _ _ _)) ; first | ((with_reducible apply go_mv_int); rfl; rfl) | ((with_reducible apply go_mv_sl); rfl; rfl))
             | ((with_reducible apply go_as))
             | (((with_reducible apply go_load); rfl; rfl; rfl))
             | (((with_reducible apply go_index_nat); rfl; rfl; (with_reducible rfl); (intro; rfl); rfl; omega; (intro hlt)))
             | ((with_reducible (show evOp _ (.binOp _ _ _ _ _) _ _ _ _)) ; first | ((with_reducible apply go_cmp); rfl; rfl; rfl; rfl) | ((with_reducible apply go_add); rfl; rfl; rfl; omega))
             | (((with_reducible apply go_len); rfl; rfl)))
           | ((with_reducible (show evOps _ _ _ _ _ _)); first
             | (with_reducible apply go_nil))
           | ((with_reducible (show ev _ _ _ _)); first
             | (with_reducible apply go_seq)
             | (with_reducible apply go_region)
             | (((with_reducible apply go_cond); rfl) <;> (intro h; simp only [h]; try simp only [decide_eq_true_eq, decide_eq_false_iff_not, Bool.not_eq_true', Bool.not_eq_false', Bool.not_true, Bool.not_false] at h; try exact absurd trivial h))
             | (with_reducible apply go_ret)
             | (with_reducible apply go_skipc)
             | (with_reducible apply go_block)
             | (with_reducible apply go_exit))
           | (with_reducible apply go_kseq)
           | (with_reducible apply go_kseq_ret)
           | (with_reducible apply go_kblock)
           | (with_reducible apply go_kblock_ret)
           | (with_reducible apply go_kblock_exit)
           | (with_reducible apply go_kseq_exit)
           | ((with_reducible apply end_int); rfl)
  · have h2 : i < l.length := by omega
    exact (firstOf_at h2 h fun j hj => hC j hj (by omega)).symm
  · have h2 : i < l.length := by omega
    refine ⟨h2, fun j hj hj' => ?_, entails_eq (k := 0) (ns := []) (ks := [3, 0]) [] rfl (by simp) rfl⟩
    rcases Nat.lt_succ_iff_lt_or_eq.1 hj with h' | rfl
    · exact hC j h' hj'
    · exact h
  · exact (firstOf_none fun j hj => hC j (by omega) hj).symm

/-- The error of a ground and beds. -/
def griddedE (g : Ground) (l : List Grid) : Int :=
  if groundE g ≠ 0 then groundE g else if firstOf (l.map gridE) ≠ 0 then firstOf (l.map gridE) else match l with
    | a :: b :: _ => if alikeE a b = true then 0 else 10
    | _ => 0

theorem firstOf_map {l : List Grid} {i : Nat} (hi : i < l.length) (h : gridE l[i] ≠ 0) (hb : ∀ j (hj : j < i) (hj' : j < l.length), gridE l[j] = 0) : firstOf (l.map gridE) = gridE l[i] := by
  have := firstOf_at (l := l.map gridE) (i := i) (by simpa using hi) (by simpa using h) fun j hj => by simpa using hb j hj (by omega)
  simpa using this

theorem c93 (g : Ground) (hs : g.soils.length < 1000000000000) (hb : g.borings.length < 1000000000000) (l : List Grid) (hll : l.length < 1000000000000) (hla : ∀ x ∈ l, x.levels.length < 1000000000000) : Contract Try.prog 93 [.agg (encGround g), .sl (l.map encGrid)] (.ret (.int .i64 (griddedE g l))) := by
  refine contract_of mix Try.func93 rfl rfl (by rw [Try.ntmps93]; exact Nat.le_of_ble_eq_true rfl) ?_; rw [Try.results93, Try.ntmps93]; simp only [argsE, Nat.reduceAdd]
  repeat' first
           | (with_reducible apply go_op)
           | (with_reducible apply go_next)
           | ((with_reducible (show evOp _ _ _ _ _ _)); first
             | ((with_reducible (show evOp _ (.move _) _ _ _ _)) ; first | ((with_reducible apply go_mv_int); rfl; rfl) | ((with_reducible apply go_mv_sl); rfl; rfl))
             | ((with_reducible apply go_as))
             | (((with_reducible apply go_ld_agg); rfl; rfl; rfl; rfl))
             | (((with_reducible apply go_cmp); rfl; rfl; rfl; rfl))
             | ((with_reducible (show evOp _ (.call _) _ _ _ _)) ; first | ((with_reducible apply go_len); rfl; rfl) | ((with_reducible apply go_fn_int); rfl; (exact c22 g hs hb); rfl))
             | (((with_reducible apply go_bx_agg); rfl; rfl; (exact Nat.le_of_ble_eq_true rfl); rfl; rfl)))
           | ((with_reducible (show evOps _ _ _ _ _ _)); first
             | (with_reducible apply go_nil))
           | ((with_reducible (show ev _ _ _ _)); first
             | (with_reducible apply go_seq)
             | (with_reducible apply go_region)
             | (((with_reducible apply go_cond); rfl) <;> (intro h; simp only [h]; try simp only [decide_eq_true_eq, decide_eq_false_iff_not, Bool.not_eq_true', Bool.not_eq_false', Bool.not_true, Bool.not_false] at h; try exact absurd trivial h))
             | (with_reducible apply go_ret)
             | (with_reducible apply go_skipc)
             | (with_reducible apply go_block))
           | (with_reducible apply go_kseq)
           | (with_reducible apply go_kseq_ret)
           | ((with_reducible apply end_int); rfl)
  · simp [griddedE, h]
  have h0 : groundE g = 0 := by assumption
  refine go_count (l.length) (fun i => ⟨[(16, .int .i64 i), (15, .int .i64 l.length), (14, .sl (l.map encGrid)), (1, .sl (l.map encGrid))], [], 32, 39⟩) (fun i => ∀ j (hj : j < i) (hj' : j < l.length), gridE l[j] = 0) (entails_eq (k := 0) (ns := []) (ks := [16, 15, 14, 1]) [] rfl (by simp) rfl) (by omega) ?_
  intro i hi hC
  repeat' first
           | (with_reducible apply go_op)
           | (with_reducible apply go_next)
           | ((with_reducible (show evOp _ _ _ _ _ _)); first
             | ((with_reducible (show evOp _ (.move _) _ _ _ _)) ; first | ((with_reducible apply go_mv_int); rfl; rfl) | ((with_reducible apply go_mv_bool); rfl; rfl) | ((with_reducible apply go_mv_sl); rfl; rfl))
             | ((with_reducible apply go_as))
             | ((with_reducible (show evOp _ (.load _ _) _ _ _ _)) ; first | ((with_reducible apply go_ld_ptr); rfl; rfl; rfl) | ((with_reducible apply go_ld_agg); rfl; rfl; rfl; rfl))
             | ((with_reducible (show evOp _ (.indexAddr _ _ _) _ _ _ _)) ; first | ((with_reducible apply go_index_nat); rfl; rfl; (with_reducible rfl); (intro; rfl); rfl; omega; (intro hlt)) | ((with_reducible apply go_index); rfl; rfl; (intro; rfl); rfl; omega; intro hlt))
             | ((with_reducible (show evOp _ (.binOp _ _ _ _ _) _ _ _ _)) ; first | ((with_reducible apply go_cmp); rfl; rfl; rfl; rfl) | ((with_reducible apply go_add); rfl; rfl; rfl; omega))
             | ((with_reducible (show evOp _ (.call _) _ _ _ _)) ; first | ((with_reducible apply go_len); rfl; rfl) | ((with_reducible apply go_fn_int); rfl; (exact c144 _ (hla _ (List.getElem_mem _))); rfl) | ((with_reducible apply go_fn_bool); rfl; (exact c145 _ _); rfl))
             | (((with_reducible apply go_st_agg); rfl; rfl; rfl; rfl; rfl; rfl; rfl))
             | (((with_reducible apply go_not); rfl; rfl))
             | (((with_reducible apply go_pick); rfl; rfl; rfl))
             | (((with_reducible apply go_alloc); rfl; rfl; rfl)))
           | ((with_reducible (show evOps _ _ _ _ _ _)); first
             | (with_reducible apply go_nil)
             | ((with_reducible apply go_run); rfl; rfl)
             | ((with_reducible apply go_pass); rfl; rfl; rfl)
             | (((with_reducible apply go_guard); rfl) <;> (intro h; simp only [h, Bool.not_true, Bool.not_false]; (try with_reducible (refine ⟨rfl, ?_⟩)); try simp only [decide_eq_true_eq, decide_eq_false_iff_not, Bool.not_eq_true', Bool.not_eq_false', Bool.not_true, Bool.not_false] at h; try exact absurd trivial h))
             | ((with_reducible apply go_pre); rfl)
             | (with_reducible apply go_pre_nil)
             | ((with_reducible apply go_suf); rfl)
             | (with_reducible apply go_suf_nil))
           | ((with_reducible (show ev _ _ _ _)); first
             | (with_reducible apply go_seq)
             | (with_reducible apply go_region)
             | ((with_reducible apply go_cond_f); rfl; rfl)
             | (((with_reducible apply go_cond); rfl) <;> (intro h; simp only [h]; try simp only [decide_eq_true_eq, decide_eq_false_iff_not, Bool.not_eq_true', Bool.not_eq_false', Bool.not_true, Bool.not_false] at h; try exact absurd trivial h))
             | ((with_reducible apply go_order); kernel_rfl; rfl)
             | (with_reducible apply go_ret)
             | (with_reducible apply go_skipc)
             | (with_reducible apply go_block)
             | (with_reducible apply go_exit))
           | (with_reducible apply go_kseq)
           | (with_reducible apply go_ksuf)
           | (with_reducible apply go_kseq_ret)
           | (with_reducible apply go_kblock)
           | (with_reducible apply go_kblock_ret)
           | (with_reducible apply go_kblock_exit)
           | (with_reducible apply go_kseq_exit)
           | ((with_reducible apply end_int); rfl)
  · have h2 : i < l.length := by omega
    have e := firstOf_map h2 h fun j hj hj' => hC j hj hj'
    unfold griddedE
    rw [if_neg (by simp [h0]), if_pos (by rw [e]; exact h), e]
  · have h2 : i < l.length := by omega
    refine ⟨h2, fun j hj hj' => ?_, entails_eq (k := 0) (ns := []) (ks := [16, 15, 14, 1]) [] rfl (by simp) rfl⟩
    rcases Nat.lt_succ_iff_lt_or_eq.1 hj with h' | rfl
    · exact hC j h' hj'
    · exact h
  all_goals
    have e : firstOf (l.map gridE) = 0 := firstOf_none fun j hj => by
      rw [List.getElem_map]; exact hC j (by simp at hj; omega) _
    unfold griddedE
    rw [if_neg (by simp [h0]), if_neg (by simp [e])]
  · obtain ⟨a, b, r, rfl⟩ : ∃ a b r, l = a :: b :: r := by
      match l, hlt with
      | a :: b :: r, _ => exact ⟨a, b, r, rfl⟩
      | [a], h' => exact absurd h' (by simp)
    have h' : alikeE a b = false := h
    simp [h']
  · obtain ⟨a, b, r, rfl⟩ : ∃ a b r, l = a :: b :: r := by
      match l, hlt with
      | a :: b :: r, _ => exact ⟨a, b, r, rfl⟩
      | [a], h' => exact absurd h' (by simp)
    have h' : alikeE a b = true := h
    simp [h']
  · match l, h with
    | [], _ => rfl
    | [a], _ => rfl
    | a :: b :: r, h => exact absurd h (by simp; omega)
end Go.Pv.Soil

open Go Go.Proofs Go.Pv
set_option maxHeartbeats 2000000
set_option maxRecDepth 100000
set_option linter.unusedSimpArgs false
set_option linter.unusedVariables false
namespace Go.Pv.Soil

theorem c110 (n : Int) (h : -1000000000000000 ≤ n ∧ n ≤ 1000000000000000) : Contract Try.prog 110 [.int .i64 n] (.ret (.int .i64 n.natAbs)) := by
  refine contract_of mix Try.func110 rfl rfl (by rw [Try.ntmps110]; exact Nat.le_of_ble_eq_true rfl) ?_; rw [Try.results110, Try.ntmps110]; simp only [argsE, Nat.reduceAdd]
  repeat' first
           | (with_reducible apply go_op)
           | (with_reducible apply go_next)
           | ((with_reducible (show evOp _ _ _ _ _ _)); first
             | (((with_reducible apply go_mv_int); rfl; rfl))
             | ((with_reducible apply go_as))
             | (((with_reducible apply go_cmp); rfl; rfl; rfl; rfl))
             | (((with_reducible apply go_neg); rfl; rfl; omega)))
           | ((with_reducible (show evOps _ _ _ _ _ _)); first
             | (with_reducible apply go_nil))
           | ((with_reducible (show ev _ _ _ _)); first
             | (with_reducible apply go_seq)
             | (with_reducible apply go_region)
             | (((with_reducible apply go_cond); rfl) <;> (intro h; simp only [h]; try simp only [decide_eq_true_eq, decide_eq_false_iff_not, Bool.not_eq_true', Bool.not_eq_false', Bool.not_true, Bool.not_false] at h; try exact absurd trivial h))
             | (with_reducible apply go_ret)
             | (with_reducible apply go_skipc))
           | (with_reducible apply go_kseq)
           | (with_reducible apply go_kseq_ret)
           | ((with_reducible apply end_int); rfl)
  all_goals (simp at *; omega)

theorem c79 (a b : List Int) (ha : a.length < 1000000000000) : Contract Try.prog 79 [.sl (a.map encInt), .sl (b.map encInt)] (.ret (.bool (decide (a = b)))) := by
  refine contract_of mix Try.func79 rfl rfl (by rw [Try.ntmps79]; exact Nat.le_of_ble_eq_true rfl) ?_; rw [Try.results79, Try.ntmps79]; simp only [argsE, Nat.reduceAdd]
  repeat' first
           | (with_reducible apply go_op)
           | (with_reducible apply go_next)
           | ((with_reducible (show evOp _ _ _ _ _ _)); first
             | ((with_reducible (show evOp _ (.move _) _ _ _ _)) ; first | ((with_reducible apply go_mv_int); rfl; rfl) | ((with_reducible apply go_mv_bool); rfl; rfl) | ((with_reducible apply go_mv_sl); rfl; rfl))
             | ((with_reducible apply go_as))
             | (((with_reducible apply go_cmp); rfl; rfl; rfl; rfl))
             | (((with_reducible apply go_len); rfl; rfl)))
           | ((with_reducible (show evOps _ _ _ _ _ _)); first
             | (with_reducible apply go_nil))
           | ((with_reducible (show ev _ _ _ _)); first
             | (with_reducible apply go_seq)
             | (with_reducible apply go_region)
             | (((with_reducible apply go_cond); rfl) <;> (intro h; simp only [h]; try simp only [decide_eq_true_eq, decide_eq_false_iff_not, Bool.not_eq_true', Bool.not_eq_false', Bool.not_true, Bool.not_false] at h; try exact absurd trivial h))
             | (with_reducible apply go_ret)
             | (with_reducible apply go_skipc)
             | (with_reducible apply go_block))
           | (with_reducible apply go_kseq)
           | (with_reducible apply go_kseq_ret)
           | ((with_reducible apply end_bool); rfl)
  · symm; simp only [decide_eq_false_iff_not]; rintro rfl; exact h rfl
  · have hl : a.length = b.length := by omega
    refine go_count a.length (fun i => ⟨[(5, .int .i64 i), (0, .sl (a.map encInt)), (1, .sl (b.map encInt))], [], 0, 26⟩) (fun i => a.take i = b.take i) (entails_eq (k := 0) (ns := []) (ks := [5, 0, 1]) [] rfl (by simp) rfl) rfl ?_
    intro i hi hC
    repeat' first
           | (with_reducible apply go_op)
           | (with_reducible apply go_next)
           | ((with_reducible (show evOp _ _ _ _ _ _)); first
             | ((with_reducible (show evOp _ (.move _) _ _ _ _)) ; first | ((with_reducible apply go_mv_int); rfl; rfl) | ((with_reducible apply go_mv_bool); rfl; rfl) | ((with_reducible apply go_mv_sl); rfl; rfl))
             | ((with_reducible apply go_as))
             | (((with_reducible apply go_load); rfl; rfl; rfl))
             | (((with_reducible apply go_index_nat); rfl; rfl; (with_reducible rfl); (intro; rfl); rfl; omega; (intro hlt)))
             | ((with_reducible (show evOp _ (.binOp _ _ _ _ _) _ _ _ _)) ; first | ((with_reducible apply go_cmp); rfl; rfl; rfl; rfl) | ((with_reducible apply go_add); rfl; rfl; rfl; omega))
             | (((with_reducible apply go_len); rfl; rfl)))
           | ((with_reducible (show evOps _ _ _ _ _ _)); first
             | (with_reducible apply go_nil)
             | ((with_reducible apply go_pre); rfl)
             | (with_reducible apply go_pre_nil)
             | ((with_reducible apply go_suf); rfl)
             | (with_reducible apply go_suf_nil))
           | ((with_reducible (show ev _ _ _ _)); first
             | (with_reducible apply go_seq)
             | (with_reducible apply go_region)
             | (((with_reducible apply go_cond); rfl) <;> (intro h; simp only [h]; try simp only [decide_eq_true_eq, decide_eq_false_iff_not, Bool.not_eq_true', Bool.not_eq_false', Bool.not_true, Bool.not_false] at h; try exact absurd trivial h))
             | ((with_reducible apply go_order); kernel_rfl; rfl)
             | (with_reducible apply go_ret)
             | (with_reducible apply go_skipc)
             | (with_reducible apply go_block)
             | (with_reducible apply go_exit))
           | (with_reducible apply go_kseq)
           | (with_reducible apply go_ksuf)
           | (with_reducible apply go_kseq_ret)
           | (with_reducible apply go_kblock)
           | (with_reducible apply go_kblock_ret)
           | (with_reducible apply go_kblock_exit)
           | (with_reducible apply go_kseq_exit)
           | ((with_reducible apply end_bool); rfl)
    · try simp only [Int.toNat_natCast] at h
      symm
      simp only [decide_eq_false_iff_not]
      rintro rfl
      exact h rfl
    · have h2 : i < a.length := by omega
      have h3 : i < b.length := by omega
      try simp only [Int.toNat_natCast] at h
      refine ⟨by omega, ?_, entails_eq (k := 0) (ns := []) (ks := [5, 0, 1]) [] rfl (by simp) rfl⟩
      rw [List.take_succ_eq_append_getElem h2, List.take_succ_eq_append_getElem h3, hC, h]
    · have e : i = a.length := by omega
      subst e
      rw [List.take_of_length_le (Nat.le_refl _), List.take_of_length_le (by omega)] at hC
      simp [hC]

def sameE (a b : Grid) : Bool := alikeE a b && decide (a.levels = b.levels)
theorem c32 (a b : Grid) (ha : a.levels.length < 1000000000000) : Contract Try.prog 32 [.agg (encGrid a), .agg (encGrid b)] (.ret (.bool (sameE a b))) := by
  refine contract_of mix Try.func32 rfl rfl (by rw [Try.ntmps32]; exact Nat.le_of_ble_eq_true rfl) ?_; rw [Try.results32, Try.ntmps32]; simp only [argsE, Nat.reduceAdd]
  repeat' first
           | (with_reducible apply go_op)
           | (with_reducible apply go_next)
           | ((with_reducible (show evOp _ _ _ _ _ _)); first
             | (((with_reducible apply go_mv_bool); rfl; rfl))
             | ((with_reducible apply go_as))
             | (((with_reducible apply go_load_own); rfl; rfl; rfl; rfl))
             | (((with_reducible apply go_fieldAddr_own); rfl; rfl; rfl))
             | (((with_reducible apply go_cmp); rfl; rfl; rfl; rfl))
             | (((with_reducible apply go_fn_bool); rfl; (exact c79 _ _ ha); rfl))
             | (((with_reducible apply go_pick); rfl; rfl; rfl))
             | (((with_reducible apply go_bx_agg); rfl; rfl; (exact Nat.le_of_ble_eq_true rfl); rfl; rfl)))
           | ((with_reducible (show evOps _ _ _ _ _ _)); first
             | (with_reducible apply go_nil)
             | ((with_reducible apply go_run); rfl; rfl)
             | ((with_reducible apply go_pass); rfl; rfl; rfl)
             | (((with_reducible apply go_guard); rfl) <;> (intro h; simp only [h, Bool.not_true, Bool.not_false]; (try with_reducible (refine ⟨rfl, ?_⟩)); try simp only [decide_eq_true_eq, decide_eq_false_iff_not, Bool.not_eq_true', Bool.not_eq_false', Bool.not_true, Bool.not_false] at h; try exact absurd trivial h)))
           | ((with_reducible (show ev _ _ _ _)); first
             | (with_reducible apply go_seq)
             | (with_reducible apply go_region)
             | (with_reducible apply go_ret))
           | (with_reducible apply go_kseq)
           | ((with_reducible apply end_bool); rfl)
  all_goals simp [sameE, alikeE, *]

/-- Two cells side by side. -/
def besideE (g : Grid) (i k : Nat) : Bool := decide (((i : Int) % g.cols - (k : Int) % g.cols).natAbs + ((i : Int) / g.cols - (k : Int) / g.cols).natAbs = 1)
theorem c61 (g : Grid) (h : OkGrid g) (i k : Nat) (hi : i < g.levels.length) (hk : k < g.levels.length) : Contract Try.prog 61 [.agg (encGrid g), .int .i64 i, .int .i64 k] (.ret (.bool (besideE g i k))) := by
  have hb := h.bds
  have hc := cell_bds h hi
  have hd := cell_bds h hk
  have hs := h.small
  have e1 := c110 ((i : Int) % g.cols - (k : Int) % g.cols) (by omega)
  have e2 := c110 ((i : Int) / g.cols - (k : Int) / g.cols) (by omega)
  refine contract_of mix Try.func61 rfl rfl (by rw [Try.ntmps61]; exact Nat.le_of_ble_eq_true rfl) ?_; rw [Try.results61, Try.ntmps61]; simp only [argsE, Nat.reduceAdd]
  repeat' first
           | (with_reducible apply go_op)
           | (with_reducible apply go_next)
           | ((with_reducible (show evOp _ _ _ _ _ _)); first
             | ((with_reducible (show evOp _ (.move _) _ _ _ _)) ; first | ((with_reducible apply go_mv_int); rfl; rfl) | ((with_reducible apply go_mv_bool); rfl; rfl))
             | ((with_reducible apply go_as))
             | (((with_reducible apply go_load_own); rfl; rfl; rfl; rfl))
             | (((with_reducible apply go_fieldAddr_own); rfl; rfl; rfl))
             | ((with_reducible (show evOp _ (.binOp _ _ _ _ _) _ _ _ _)) ; first | ((with_reducible apply go_cmp); rfl; rfl; rfl; rfl) | ((with_reducible apply go_add); rfl; rfl; rfl; omega) | ((with_reducible apply go_sub); rfl; rfl; rfl; omega) | ((with_reducible apply go_rem_pos); rfl; rfl; rfl; omega) | ((with_reducible apply go_quo_pos); rfl; rfl; rfl; omega))
             | ((with_reducible (show evOp _ (.call _) _ _ _ _)) ; first | ((with_reducible apply go_fn_int); rfl; (exact e1); rfl) | ((with_reducible apply go_fn_int); rfl; (exact e2); rfl))
             | (((with_reducible apply go_bx_agg); rfl; rfl; (exact Nat.le_of_ble_eq_true rfl); rfl; rfl)))
           | ((with_reducible (show evOps _ _ _ _ _ _)); first
             | (with_reducible apply go_nil)
             | ((with_reducible apply go_pre); rfl)
             | (with_reducible apply go_pre_nil)
             | ((with_reducible apply go_suf); rfl)
             | (with_reducible apply go_suf_nil))
           | ((with_reducible (show ev _ _ _ _)); first
             | (with_reducible apply go_seq)
             | (with_reducible apply go_region)
             | ((with_reducible apply go_order); kernel_rfl; rfl)
             | (with_reducible apply go_ret))
           | (with_reducible apply go_kseq)
           | (with_reducible apply go_ksuf)
           | ((with_reducible apply end_bool); rfl)
  all_goals exact decide_eq_decide.2 (by omega)
end Go.Pv.Soil

open Go Go.Proofs Go.Pv
set_option maxHeartbeats 2000000
set_option maxRecDepth 100000
set_option linter.unusedSimpArgs false
set_option linter.unusedVariables false
namespace Go.Pv.Soil

theorem scalInt : ScalF encInt 1 := fun _ => ⟨rfl, rfl⟩
/-- The cells beside a cell, of the first n cells. -/
def nearL (g : Grid) (i : Nat) : Nat → List Int
  | 0 => []
  | n + 1 => if besideE g i n = true then nearL g i n ++ [(n : Int)] else nearL g i n
theorem nearL_len (g : Grid) (i : Nat) : ∀ n, (nearL g i n).length ≤ n
  | 0 => Nat.le_refl _
  | n + 1 => by
    have := nearL_len g i n
    simp only [nearL]
    split <;> simp <;> omega

theorem c107 (g : Grid) (h : OkGrid g) (i : Nat) (hi : i < g.levels.length) : Contract Try.prog 107 [.agg (encGrid g), .int .i64 i] (.ret (.fr 1 ((nearL g i g.levels.length).map encInt))) := by
  have hs := h.small
  refine contract_of mix Try.func107 rfl rfl (by rw [Try.ntmps107]; exact Nat.le_of_ble_eq_true rfl) ?_; rw [Try.results107, Try.ntmps107]; simp only [argsE, Nat.reduceAdd]
  repeat' first
           | (with_reducible apply go_op)
           | (with_reducible apply go_next)
           | ((with_reducible (show evOp _ _ _ _ _ _)); first
             | ((with_reducible (show evOp _ (.move _) _ _ _ _)) ; first | ((with_reducible apply go_mv_int); rfl; rfl) | ((with_reducible apply go_mv_nilsl); rfl; rfl))
             | ((with_reducible apply go_as))
             | (((with_reducible apply go_bx_agg); rfl; rfl; (exact Nat.le_of_ble_eq_true rfl); rfl; rfl)))
           | ((with_reducible (show evOps _ _ _ _ _ _)); first
             | (with_reducible apply go_nil))
           | ((with_reducible (show ev _ _ _ _)); first
             | (with_reducible apply go_seq)
             | (with_reducible apply go_region)
             | (with_reducible apply go_block))
           | (with_reducible apply go_kseq)
  refine go_count g.levels.length (fun j => ⟨[(5, .os 1 0 (nearL g i j).length), (6, .int .i64 j), (2, .op 0 0 0), (1, .int .i64 i)], [(1, ⟨1, true, (nearL g i j).map encInt⟩), (0, ⟨6, true, [encGrid g]⟩)], 32, 23⟩) (fun j => True) (entails_eq (nx := 32) (k := 1) (ns := [(5, 1)]) (ks := [6, 2, 1]) [(0, 0)] rfl (by simp; rfl) rfl) trivial ?_
  intro j hj hC
  have hlen := nearL_len g i j
  by_cases hlt : j < g.levels.length
  · have h61 := c61 g h i j hi hlt
    repeat' first
           | (with_reducible apply go_op)
           | (with_reducible apply go_next)
           | ((with_reducible (show evOp _ _ _ _ _ _)); first
             | ((with_reducible (show evOp _ (.move _) _ _ _ _)) ; first | ((with_reducible apply go_mv_int); rfl; rfl) | ((with_reducible apply go_mv_os); rfl; rfl))
             | ((with_reducible apply go_as))
             | ((with_reducible (show evOp _ (.load _ _) _ _ _ _)) ; first | ((with_reducible apply go_ld_agg); rfl; rfl; rfl; rfl) | ((with_reducible apply go_load_own); rfl; rfl; rfl; rfl))
             | (((with_reducible apply go_fieldAddr_own); rfl; rfl; rfl))
             | ((with_reducible (show evOp _ (.binOp _ _ _ _ _) _ _ _ _)) ; first | ((with_reducible apply go_cmp); rfl; rfl; rfl; rfl) | ((with_reducible apply go_add); rfl; rfl; rfl; omega))
             | ((with_reducible (show evOp _ (.call _) _ _ _ _)) ; first | ((with_reducible apply go_len); rfl; rfl) | ((with_reducible apply go_fn_bool); rfl; (exact h61); rfl))
             | (((with_reducible apply go_bs1_int); rfl; rfl; rfl)))
           | ((with_reducible (show evOps _ _ _ _ _ _)); first
             | (with_reducible apply go_nil))
           | ((with_reducible (show ev _ _ _ _)); first
             | (with_reducible apply go_seq)
             | (with_reducible apply go_region)
             | (((with_reducible apply go_cond); rfl) <;> (intro h; simp only [h]; try simp only [decide_eq_true_eq, decide_eq_false_iff_not, Bool.not_eq_true', Bool.not_eq_false', Bool.not_true, Bool.not_false] at h; try exact absurd trivial h))
             | (with_reducible apply go_ret)
             | (with_reducible apply go_skipc)
             | (with_reducible apply go_block)
             | (with_reducible apply go_exit))
           | (with_reducible apply go_kseq)
           | (with_reducible apply go_kblock)
           | (with_reducible apply go_kblock_exit)
           | (with_reducible apply go_kseq_exit)
    all_goals first
      | (refine go_app_map (f := encInt) (a := (j : Int)) (l := nearL g i j) scalInt rfl rfl rfl rfl rfl rfl (by kernel_rfl) (by kernel_rfl) (by omega) rfl ?_)
      | skip
    repeat' first
           | (with_reducible apply go_op)
           | (with_reducible apply go_next)
           | ((with_reducible (show evOp _ _ _ _ _ _)); first
             | ((with_reducible (show evOp _ (.move _) _ _ _ _)) ; first | ((with_reducible apply go_mv_int); rfl; rfl) | ((with_reducible apply go_mv_os); rfl; rfl))
             | ((with_reducible apply go_as))
             | (((with_reducible apply go_add); rfl; rfl; rfl; omega)))
           | ((with_reducible (show evOps _ _ _ _ _ _)); first
             | (with_reducible apply go_nil))
           | ((with_reducible (show ev _ _ _ _)); first
             | (with_reducible apply go_region))
           | (with_reducible apply go_kseq)
           | (with_reducible apply go_kblock)
    · have e : nearL g i (j + 1) = nearL g i j ++ [(j : Int)] := by show (if _ then _ else _) = _; rw [if_pos h]
      have el : (nearL g i j).length + 1 = (nearL g i (j + 1)).length := by rw [e]; simp
      refine ⟨hlt, trivial, ?_⟩
      rw [← e, el]
      exact entails_eq (nx := 32) (k := 1) (ns := []) (ks := [5, 6, 2, 1]) [(1, 1), (0, 0)] rfl (by simp) rfl
    · have e : nearL g i (j + 1) = nearL g i j := by show (if _ then _ else _) = _; rw [if_neg (by simp [h])]
      refine ⟨hlt, trivial, ?_⟩
      rw [e]
      exact entails_eq (nx := 32) (k := 1) (ns := []) (ks := [5, 6, 2, 1]) [(1, 1), (0, 0)] rfl (by simp) rfl
    · exact absurd hlt (by omega)
  · have e : j = g.levels.length := by omega
    subst e
    repeat' first
           | (with_reducible apply go_op)
           | (with_reducible apply go_next)
           | ((with_reducible (show evOp _ _ _ _ _ _)); first
             | ((with_reducible (show evOp _ (.move _) _ _ _ _)) ; first | ((with_reducible apply go_mv_int); rfl; rfl) | ((with_reducible apply go_mv_os); rfl; rfl))
             | ((with_reducible apply go_as))
             | ((with_reducible (show evOp _ (.load _ _) _ _ _ _)) ; first | ((with_reducible apply go_ld_agg); rfl; rfl; rfl; rfl) | ((with_reducible apply go_load_own); rfl; rfl; rfl; rfl))
             | (((with_reducible apply go_fieldAddr_own); rfl; rfl; rfl))
             | (((with_reducible apply go_cmp); rfl; rfl; rfl; rfl))
             | (((with_reducible apply go_len); rfl; rfl)))
           | ((with_reducible (show evOps _ _ _ _ _ _)); first
             | (with_reducible apply go_nil))
           | ((with_reducible (show ev _ _ _ _)); first
             | (with_reducible apply go_seq)
             | (with_reducible apply go_region)
             | (((with_reducible apply go_cond); rfl) <;> (intro h; simp only [h]; try simp only [decide_eq_true_eq, decide_eq_false_iff_not, Bool.not_eq_true', Bool.not_eq_false', Bool.not_true, Bool.not_false] at h; try exact absurd trivial h))
             | (with_reducible apply go_ret)
             | (with_reducible apply go_skipc)
             | (with_reducible apply go_block)
             | (with_reducible apply go_exit))
           | (with_reducible apply go_kseq)
           | (with_reducible apply go_kblock_exit)
           | (with_reducible apply go_kseq_exit)
    · exact absurd ‹_› (by omega)
    · exact end_fr rfl rfl rfl
end Go.Pv.Soil

open Go Go.Proofs Go.Pv
set_option maxHeartbeats 2000000
set_option maxRecDepth 100000
set_option linter.unusedSimpArgs false
set_option linter.unusedVariables false
namespace Go.Pv.Soil

theorem idxOf_lt {α : Type} {p : α → Bool} {l : List α} (h : 0 ≤ idxOf p l) : (idxOf p l).toNat < l.length := by
  unfold idxOf at h ⊢
  split
  · rename_i i hi
    have := (List.findIdx?_eq_some_iff_getElem.1 hi).1
    simpa using this
  · rename_i hi
    rw [hi] at h
    exact absurd h (by decide)

/-- The slope of the soil of a layer. -/
def layRun (g : Ground) (b : Boring) (i : Nat) : Int := match g.soils[(ofName g.soils (laySoil b i)).toNat]? with
  | some s => s.a
  | none => 0
/-- The gentlest slope of the first n layers. -/
def runL (g : Ground) (b : Boring) : Nat → Int
  | 0 => 0
  | n + 1 => max (runL g b n) (layRun g b n)

theorem layRun_at {g : Ground} {b : Boring} (hb : OkBoring g.soils b) {i : Nat} (hi : i < b.layers.length) : ∃ (h1 : 0 ≤ ofName g.soils b.layers[i].soil) (h2 : (ofName g.soils b.layers[i].soil).toNat < g.soils.length), layRun g b i = (g.soils[(ofName g.soils b.layers[i].soil).toNat]).a := by
  have h1 := (hb.lay i hi).2.1
  have h2 : (ofName g.soils b.layers[i].soil).toNat < g.soils.length := idxOf_lt h1
  refine ⟨h1, h2, ?_⟩
  have e : laySoil b i = b.layers[i].soil := by simp only [laySoil, List.getElem?_eq_getElem hi]
  simp only [layRun, e]
  rw [List.getElem?_eq_getElem h2]

def runE (g : Ground) (n : Nat) : Int := match g.borings[n]? with
  | some b => runL g b b.layers.length
  | none => 0

theorem c111 (g : Ground) (hg : OkG g) (hs : g.soils.length < 1000000000000) (p : Pt) (hp : ptOK p = true) : Contract Try.prog 111 [.agg (encGround g), .agg (encPt p)] (.ret (.int .i64 (runE g (nearE g p)))) := by
  have hn := near_lt (p := p) hg.n.1
  have hb := hg.bor _ hn
  have hll := hb.len
  have e : runE g (nearE g p) = runL g g.borings[nearE g p] g.borings[nearE g p].layers.length := by simp only [runE, List.getElem?_eq_getElem hn]
  rw [e]
  refine contract_of mix Try.func111 rfl rfl (by rw [Try.ntmps111]; exact Nat.le_of_ble_eq_true rfl) ?_; rw [Try.results111, Try.ntmps111]; simp only [argsE, Nat.reduceAdd]
  repeat' first
           | (with_reducible apply go_op)
           | (with_reducible apply go_next)
           | ((with_reducible (show evOp _ _ _ _ _ _)); first
             | ((with_reducible (show evOp _ (.move _) _ _ _ _)) ; first | ((with_reducible apply go_mv_int); rfl; rfl) | ((with_reducible apply go_mv_sl); rfl; rfl))
             | ((with_reducible apply go_as))
             | ((with_reducible (show evOp _ (.load _ _) _ _ _ _)) ; first | ((with_reducible apply go_ld_agg); rfl; rfl; rfl; rfl) | ((with_reducible apply go_load); rfl; rfl; rfl) | ((with_reducible apply go_load_own); rfl; rfl; rfl; rfl))
             | ((with_reducible (show evOp _ (.fieldAddr _ _ _) _ _ _ _)) ; first | ((with_reducible apply go_fieldAddr); rfl; rfl) | ((with_reducible apply go_fieldAddr_own); rfl; rfl; rfl))
             | (((with_reducible apply go_index_nat); rfl; rfl; (with_reducible rfl); (intro; rfl); rfl; omega; (intro hlt)))
             | (((with_reducible apply go_fn_int); rfl; (exact c47 g hg p hp); rfl))
             | (((with_reducible apply go_bx_agg); rfl; rfl; (exact Nat.le_of_ble_eq_true rfl); rfl; rfl)))
           | ((with_reducible (show evOps _ _ _ _ _ _)); first
             | (with_reducible apply go_nil)
             | ((with_reducible apply go_pre); rfl)
             | (with_reducible apply go_pre_nil)
             | ((with_reducible apply go_suf); rfl)
             | (with_reducible apply go_suf_nil))
           | ((with_reducible (show ev _ _ _ _)); first
             | (with_reducible apply go_seq)
             | (with_reducible apply go_region)
             | ((with_reducible apply go_order); kernel_rfl; rfl)
             | (with_reducible apply go_block))
           | (with_reducible apply go_kseq)
           | (with_reducible apply go_ksuf)
  refine go_count (g.borings[nearE g p].layers.length) (fun i => ⟨[(7, .int .i64 i), (6, .int .i64 (runL g g.borings[nearE g p] i)), (5, .sl (g.borings[nearE g p].layers.map encLayer)), (2, .op 0 0 0)], [(0, ⟨2, true, [encGround g]⟩)], 64, 38⟩) (fun i => True) (entails_eq (k := 0) (ns := []) (ks := [7, 6, 5, 2]) [(0, 0)] rfl (by simp) rfl) trivial ?_
  intro i hi hC
  by_cases hlt : i < g.borings[nearE g p].layers.length
  · obtain ⟨h1, h2, h3⟩ := layRun_at hb hlt
    repeat' first
           | (with_reducible apply go_op)
           | (with_reducible apply go_next)
           | ((with_reducible (show evOp _ _ _ _ _ _)); first
             | ((with_reducible (show evOp _ (.move _) _ _ _ _)) ; first | ((with_reducible apply go_mv_int); rfl; rfl) | ((with_reducible apply go_mv_sl); rfl; rfl))
             | ((with_reducible apply go_as))
             | ((with_reducible (show evOp _ (.load _ _) _ _ _ _)) ; first | ((with_reducible apply go_load); rfl; rfl; rfl) | ((with_reducible apply go_load_own); rfl; rfl; rfl; rfl))
             | ((with_reducible (show evOp _ (.fieldAddr _ _ _) _ _ _ _)) ; first | ((with_reducible apply go_fieldAddr); rfl; rfl) | ((with_reducible apply go_fieldAddr_own); rfl; rfl; rfl))
             | ((with_reducible (show evOp _ (.indexAddr _ _ _) _ _ _ _)) ; first | ((with_reducible apply go_index_nat); rfl; rfl; (with_reducible rfl); (intro; rfl); rfl; omega; (intro hlt)) | ((with_reducible apply go_index); rfl; rfl; (intro; rfl); rfl; omega; intro hlt))
             | ((with_reducible (show evOp _ (.binOp _ _ _ _ _) _ _ _ _)) ; first | ((with_reducible apply go_cmp); rfl; rfl; rfl; rfl) | ((with_reducible apply go_add); rfl; rfl; rfl; omega))
             | ((with_reducible (show evOp _ (.call _) _ _ _ _)) ; first | ((with_reducible apply go_len); rfl; rfl) | ((with_reducible apply go_max); rfl; rfl; rfl) | ((with_reducible apply go_fn_int); rfl; (exact c84 g.soils hs _); rfl)))
           | ((with_reducible (show evOps _ _ _ _ _ _)); first
             | (with_reducible apply go_nil)
             | (with_reducible apply go_take)
             | (with_reducible apply go_take0)
             | (with_reducible apply go_drop)
             | (with_reducible apply go_drop0))
           | ((with_reducible (show ev _ _ _ _)); first
             | (with_reducible apply go_seq)
             | (with_reducible apply go_region)
             | (((with_reducible apply go_cond); rfl) <;> (intro h; simp only [h]; try simp only [decide_eq_true_eq, decide_eq_false_iff_not, Bool.not_eq_true', Bool.not_eq_false', Bool.not_true, Bool.not_false] at h; try exact absurd trivial h))
             | ((with_reducible apply (go_drawM 15)); decide +kernel; rfl)
             | (with_reducible apply go_ret)
             | (with_reducible apply go_skipc)
             | (with_reducible apply go_block)
             | (with_reducible apply go_exit))
           | (with_reducible apply go_kseq)
           | (with_reducible apply go_kblock)
           | (with_reducible apply go_kblock_exit)
           | (with_reducible apply go_kdrop)
           | (with_reducible apply go_kseq_exit)
           | ((with_reducible apply end_int); rfl)
    all_goals try exact absurd hlt (by omega)
    refine ⟨by omega, trivial, ?_⟩
    have e' : runL g g.borings[nearE g p] (i + 1) = max (runL g g.borings[nearE g p] i) (g.soils[(ofName g.soils g.borings[nearE g p].layers[i].soil).toNat]).a := by
      rw [← h3]; rfl
    rw [e']
    exact entails_eq (k := 0) (ns := []) (ks := [7, 6, 5, 2]) [(0, 0)] rfl (by simp) rfl
  · have e : i = g.borings[nearE g p].layers.length := by omega
    subst e
    repeat' first
           | (with_reducible apply go_op)
           | (with_reducible apply go_next)
           | ((with_reducible (show evOp _ _ _ _ _ _)); first
             | ((with_reducible (show evOp _ (.move _) _ _ _ _)) ; first | ((with_reducible apply go_mv_int); rfl; rfl) | ((with_reducible apply go_mv_sl); rfl; rfl))
             | ((with_reducible apply go_as))
             | ((with_reducible (show evOp _ (.load _ _) _ _ _ _)) ; first | ((with_reducible apply go_load); rfl; rfl; rfl) | ((with_reducible apply go_load_own); rfl; rfl; rfl; rfl))
             | ((with_reducible (show evOp _ (.fieldAddr _ _ _) _ _ _ _)) ; first | ((with_reducible apply go_fieldAddr); rfl; rfl) | ((with_reducible apply go_fieldAddr_own); rfl; rfl; rfl))
             | (((with_reducible apply go_index_nat); rfl; rfl; (with_reducible rfl); (intro; rfl); rfl; omega; (intro hlt)))
             | (((with_reducible apply go_cmp); rfl; rfl; rfl; rfl))
             | (((with_reducible apply go_len); rfl; rfl)))
           | ((with_reducible (show evOps _ _ _ _ _ _)); first
             | (with_reducible apply go_nil)
             | (with_reducible apply go_take))
           | ((with_reducible (show ev _ _ _ _)); first
             | (with_reducible apply go_seq)
             | (with_reducible apply go_region)
             | (((with_reducible apply go_cond); rfl) <;> (intro h; simp only [h]; try simp only [decide_eq_true_eq, decide_eq_false_iff_not, Bool.not_eq_true', Bool.not_eq_false', Bool.not_true, Bool.not_false] at h; try exact absurd trivial h))
             | ((with_reducible apply (go_drawM 15)); decide +kernel; rfl)
             | (with_reducible apply go_ret)
             | (with_reducible apply go_skipc)
             | (with_reducible apply go_block)
             | (with_reducible apply go_exit))
           | (with_reducible apply go_kseq)
           | (with_reducible apply go_kblock_exit)
           | (with_reducible apply go_kseq_exit)
           | ((with_reducible apply end_int); rfl)
           | (with_reducible rfl)
    all_goals first | exact absurd ‹_› (by omega) | trace_state
end Go.Pv.Soil

open Go Go.Proofs Go.Pv
set_option maxHeartbeats 2000000
set_option maxRecDepth 100000
set_option linter.unusedSimpArgs false
set_option linter.unusedVariables false
namespace Go.Pv.Soil

theorem c146 (g : Ground) (hg : OkG g) (hs : g.soils.length < 1000000000000) (n : Nat) (hn : n < g.borings.length) : Contract Try.prog 146 [.agg (encGround g), .int .i64 n] (.ret (.int .i64 (runE g n))) := by
  have hb := hg.bor _ hn
  have hll := hb.len
  have hq := hg.n
  have e : runE g n = runL g g.borings[n] g.borings[n].layers.length := by simp only [runE, List.getElem?_eq_getElem hn]
  rw [e]
  refine contract_of mix Try.func146 rfl rfl (by rw [Try.ntmps146]; exact Nat.le_of_ble_eq_true rfl) ?_; rw [Try.results146, Try.ntmps146]; simp only [argsE, Nat.reduceAdd]
  repeat' first
           | (with_reducible apply go_op)
           | (with_reducible apply go_next)
           | ((with_reducible (show evOp _ _ _ _ _ _)); first
             | (((with_reducible apply go_mv_int); rfl; rfl))
             | ((with_reducible apply go_as))
             | ((with_reducible (show evOp _ (.load _ _) _ _ _ _)) ; first | ((with_reducible apply go_load); rfl; rfl; rfl) | ((with_reducible apply go_load_own); rfl; rfl; rfl; rfl))
             | ((with_reducible (show evOp _ (.fieldAddr _ _ _) _ _ _ _)) ; first | ((with_reducible apply go_fieldAddr); rfl; rfl) | ((with_reducible apply go_fieldAddr_own); rfl; rfl; rfl))
             | (((with_reducible apply go_index_nat); rfl; rfl; (with_reducible rfl); (intro; rfl); rfl; omega; (intro hlt)))
             | (((with_reducible apply go_len); rfl; rfl))
             | (((with_reducible apply go_bx_agg); rfl; rfl; (exact Nat.le_of_ble_eq_true rfl); rfl; rfl)))
           | ((with_reducible (show evOps _ _ _ _ _ _)); first
             | (with_reducible apply go_nil))
           | ((with_reducible (show ev _ _ _ _)); first
             | (with_reducible apply go_seq)
             | (with_reducible apply go_region)
             | (with_reducible apply go_block))
           | (with_reducible apply go_kseq)
  refine go_count (g.borings[n].layers.length) (fun i => ⟨[(16, .int .i64 i), (15, .int .i64 g.borings[n].layers.length), (14, .sl (g.borings[n].layers.map encLayer)), (5, .int .i64 (runL g g.borings[n] i)), (2, .op 0 0 0)], [(0, ⟨2, true, [encGround g]⟩)], 64, 36⟩) (fun i => True) (entails_eq (k := 0) (ns := []) (ks := [16, 15, 14, 5, 2]) [(0, 0)] rfl (by simp) rfl) trivial ?_
  intro i hi hC
  by_cases hlt : i < g.borings[n].layers.length
  · obtain ⟨h1, h2, h3⟩ := layRun_at hb hlt
    repeat' first
           | (with_reducible apply go_op)
           | (with_reducible apply go_next)
           | ((with_reducible (show evOp _ _ _ _ _ _)); first
             | (((with_reducible apply go_mv_int); rfl; rfl))
             | ((with_reducible apply go_as))
             | ((with_reducible (show evOp _ (.load _ _) _ _ _ _)) ; first | ((with_reducible apply go_ld_ptr); rfl; rfl; rfl) | ((with_reducible apply go_load); rfl; rfl; rfl) | ((with_reducible apply go_load_own); rfl; rfl; rfl; rfl))
             | ((with_reducible (show evOp _ (.fieldAddr _ _ _) _ _ _ _)) ; first | ((with_reducible apply go_fieldAddr); rfl; rfl) | ((with_reducible apply go_fieldAddr_own); rfl; rfl; rfl))
             | ((with_reducible (show evOp _ (.indexAddr _ _ _) _ _ _ _)) ; first | ((with_reducible apply go_index_nat); rfl; rfl; (with_reducible rfl); (intro; rfl); rfl; omega; (intro hlt)) | ((with_reducible apply go_index); rfl; rfl; (intro; rfl); rfl; omega; intro hlt))
             | ((with_reducible (show evOp _ (.binOp _ _ _ _ _) _ _ _ _)) ; first | ((with_reducible apply go_cmp); rfl; rfl; rfl; rfl) | ((with_reducible apply go_add); rfl; rfl; rfl; omega))
             | ((with_reducible (show evOp _ (.call _) _ _ _ _)) ; first | ((with_reducible apply go_max); rfl; rfl; rfl) | ((with_reducible apply go_fn_int); rfl; (exact c102 g.soils hs _); rfl))
             | (((with_reducible apply go_st_agg); rfl; rfl; rfl; rfl; rfl; rfl; rfl))
             | (((with_reducible apply go_alloc); rfl; rfl; rfl)))
           | ((with_reducible (show evOps _ _ _ _ _ _)); first
             | (with_reducible apply go_nil)
             | (with_reducible apply go_take)
             | (with_reducible apply go_take0)
             | (with_reducible apply go_drop)
             | (with_reducible apply go_drop0))
           | ((with_reducible (show ev _ _ _ _)); first
             | (with_reducible apply go_seq)
             | (with_reducible apply go_region)
             | (((with_reducible apply go_cond); rfl) <;> (intro h; simp only [h]; try simp only [decide_eq_true_eq, decide_eq_false_iff_not, Bool.not_eq_true', Bool.not_eq_false', Bool.not_true, Bool.not_false] at h; try exact absurd trivial h))
             | ((with_reducible apply (go_drawM 14)); decide +kernel; rfl)
             | (with_reducible apply go_ret)
             | (with_reducible apply go_skipc)
             | (with_reducible apply go_block)
             | (with_reducible apply go_exit))
           | (with_reducible apply go_kseq)
           | (with_reducible apply go_kblock)
           | (with_reducible apply go_kblock_exit)
           | (with_reducible apply go_kdrop)
           | (with_reducible apply go_kseq_exit)
           | ((with_reducible apply end_int); rfl)
    all_goals try exact absurd hlt (by omega)
    refine ⟨by omega, trivial, ?_⟩
    have e' : runL g g.borings[n] (i + 1) = max (runL g g.borings[n] i) (g.soils[(ofName g.soils g.borings[n].layers[i].soil).toNat]).a := by
      rw [← h3]; rfl
    rw [e']
    exact entails_eq (k := 0) (ns := []) (ks := [16, 15, 14, 5, 2]) [(0, 0)] rfl (by simp) rfl
  · have e : i = g.borings[n].layers.length := by omega
    subst e
    repeat' first
           | (with_reducible apply go_op)
           | (with_reducible apply go_next)
           | ((with_reducible (show evOp _ _ _ _ _ _)); first
             | (((with_reducible apply go_mv_int); rfl; rfl))
             | ((with_reducible apply go_as))
             | ((with_reducible (show evOp _ (.load _ _) _ _ _ _)) ; first | ((with_reducible apply go_ld_ptr); rfl; rfl; rfl) | ((with_reducible apply go_load_own); rfl; rfl; rfl; rfl))
             | (((with_reducible apply go_fieldAddr_own); rfl; rfl; rfl))
             | (((with_reducible apply go_index_nat); rfl; rfl; (with_reducible rfl); (intro; rfl); rfl; omega; (intro hlt)))
             | (((with_reducible apply go_cmp); rfl; rfl; rfl; rfl))
             | (((with_reducible apply go_st_agg); rfl; rfl; rfl; rfl; rfl; rfl; rfl))
             | (((with_reducible apply go_alloc); rfl; rfl; rfl)))
           | ((with_reducible (show evOps _ _ _ _ _ _)); first
             | (with_reducible apply go_nil)
             | (with_reducible apply go_take))
           | ((with_reducible (show ev _ _ _ _)); first
             | (with_reducible apply go_seq)
             | (with_reducible apply go_region)
             | (((with_reducible apply go_cond); rfl) <;> (intro h; simp only [h]; try simp only [decide_eq_true_eq, decide_eq_false_iff_not, Bool.not_eq_true', Bool.not_eq_false', Bool.not_true, Bool.not_false] at h; try exact absurd trivial h))
             | ((with_reducible apply (go_drawM 14)); decide +kernel; rfl)
             | (with_reducible apply go_ret)
             | (with_reducible apply go_skipc)
             | (with_reducible apply go_block)
             | (with_reducible apply go_exit))
           | (with_reducible apply go_kseq)
           | (with_reducible apply go_kblock_exit)
           | (with_reducible apply go_kseq_exit)
           | ((with_reducible apply end_int); rfl)
           | (with_reducible rfl)
    all_goals first | exact absurd ‹_› (by omega) | trace_state
end Go.Pv.Soil

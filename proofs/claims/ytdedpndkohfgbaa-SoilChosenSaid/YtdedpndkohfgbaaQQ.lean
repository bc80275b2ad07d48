import Derived.Test.YtdedpndkohfgbaaProg
import Derived.Test.YtdedpndkohfgbaaQP
import Derived.Test.YtdedpndkohfgbaaQvD
import Derived.KernelRfl
/- Part of the proofs over Ytdedpndkohfgbaa: PH10, PH11, PH12. -/
set_option linter.unusedVariables false
set_option linter.unusedSimpArgs false
set_option linter.unnecessarySimpa false
open Go Go.Proofs Go.Pv
set_option maxHeartbeats 4000000
set_option maxRecDepth 100000
set_option linter.unusedSimpArgs false
set_option linter.unusedVariables false
namespace Go.Pv.Geo
theorem cellsPt : Try.prog.cellsOf 62 = 2 := by kernel_rfl
/-- The corner with a number, counted on from the first one. -/
def cornerP (l : List Pt) (i : Nat) : Pt := l.getD (i % l.length) ⟨0, 0⟩
theorem cornerP_get {l : List Pt} (h : 0 < l.length) (i : Nat) : cornerP l i = l[i % l.length]'(Nat.mod_lt _ h) := by
  simp [cornerP, List.getD_eq_getElem?_getD, Nat.mod_lt _ h]
theorem cornerP_mem {l : List Pt} (h : 0 < l.length) (i : Nat) : cornerP l i ∈ l := by
  rw [cornerP_get h]; exact List.getElem_mem _
theorem cornerP_lt {l : List Pt} {i : Nat} (h : i < l.length) : cornerP l i = l[i] := by
  rw [cornerP_get (by omega)]; simp only [Nat.mod_eq_of_lt h]
theorem c_corner (l : List Pt) (h0 : 0 < l.length) (hl : l.length < 1000000000000) (i : Nat) : Contract Try.prog 188 [.sl (l.map encPt), .int .i64 i] (.ret (.agg (encPt (cornerP l i)))) := by
  have hm := Nat.mod_lt i h0
  have e : ((i : Int) % (l.length : Int)) = ((i % l.length : Nat) : Int) := by simp
  have hlt' : 0 ≤ (i : Int) % (l.length : Int) ∧ (i : Int) % (l.length : Int) < l.length := by rw [e]; omega
  have e2 : ((i : Int) % (l.length : Int)).toNat = i % l.length := by rw [e]; rfl
  rw [cornerP_get h0]
  refine contract_of mix Try.func188 rfl rfl (by rw [Try.ntmps188]; exact Nat.le_of_ble_eq_true rfl) ?_; rw [Try.results188, Try.ntmps188]; simp only [argsE, Nat.reduceAdd]
  repeat' first
           | (with_reducible apply go_op)
           | (with_reducible apply go_next)
           | ((with_reducible (show evOp _ _ _ _ _ _)); first
             | ((with_reducible (show evOp _ (.move _) _ _ _ _)) ; first | ((with_reducible apply go_mv_int); rfl; rfl) | ((with_reducible apply go_mv_sl); rfl; rfl))
             | (((with_reducible apply go_ld_ptr); rfl; rfl; rfl))
             | (((with_reducible apply go_index); rfl; rfl; (intro; rfl); rfl; omega; intro hlt))
             | (((with_reducible apply go_rem_pos); rfl; rfl; rfl; omega))
             | (((with_reducible apply go_len); rfl; rfl))
             | (((with_reducible apply go_st_agg); rfl; rfl; rfl; rfl; rfl; rfl; rfl))
             | (((with_reducible apply go_alloc); rfl; rfl; rfl)))
           | ((with_reducible (show evOps _ _ _ _ _ _)); first
             | (with_reducible apply go_nil))
           | ((with_reducible (show evG _ _ _ _ _)); first
             | (with_reducible apply go_seq)
             | (with_reducible apply go_region)
             | (with_reducible apply go_ret))
           | (with_reducible apply go_kseq)
           | ((with_reducible apply end_agg); rfl; rfl)
  all_goals (rw [cellsPt]; simp only [e2]; rfl)
theorem c_rcorner (l : List Pt) (h0 : 0 < l.length) (hl : l.length < 1000000000000) (i : Nat) : Contract Try.prog 159 [.sl (l.map encPt), .int .i64 i] (.ret (.agg (encPt (cornerP l i)))) := by
  have hm := Nat.mod_lt i h0
  have e : ((i : Int) % (l.length : Int)) = ((i % l.length : Nat) : Int) := by simp
  have hlt' : 0 ≤ (i : Int) % (l.length : Int) ∧ (i : Int) % (l.length : Int) < l.length := by rw [e]; omega
  have e2 : ((i : Int) % (l.length : Int)).toNat = i % l.length := by rw [e]; rfl
  rw [cornerP_get h0]
  refine contract_of mix Try.func159 rfl rfl (by rw [Try.ntmps159]; exact Nat.le_of_ble_eq_true rfl) ?_; rw [Try.results159, Try.ntmps159]; simp only [argsE, Nat.reduceAdd]
  repeat' first
           | (with_reducible apply go_op)
           | (with_reducible apply go_next)
           | ((with_reducible (show evOp _ _ _ _ _ _)); first
             | ((with_reducible (show evOp _ (.move _) _ _ _ _)) ; first | ((with_reducible apply go_mv_int); rfl; rfl) | ((with_reducible apply go_mv_sl); rfl; rfl))
             | (((with_reducible apply go_ld_ptr); rfl; rfl; rfl))
             | (((with_reducible apply go_index); rfl; rfl; (intro; rfl); rfl; omega; intro hlt))
             | (((with_reducible apply go_rem_pos); rfl; rfl; rfl; omega))
             | (((with_reducible apply go_len); rfl; rfl))
             | (((with_reducible apply go_st_agg); rfl; rfl; rfl; rfl; rfl; rfl; rfl))
             | (((with_reducible apply go_alloc); rfl; rfl; rfl)))
           | ((with_reducible (show evOps _ _ _ _ _ _)); first
             | (with_reducible apply go_nil))
           | ((with_reducible (show evG _ _ _ _ _)); first
             | (with_reducible apply go_seq)
             | (with_reducible apply go_region)
             | (with_reducible apply go_ret))
           | (with_reducible apply go_kseq)
           | ((with_reducible apply end_agg); rfl; rfl)
  all_goals (rw [cellsPt]; simp only [e2]; rfl)
/-- A corner at which a polygon is not simple; a pair of edges that meet. -/
def ptEq (a b : Pt) : Bool := decide (a.x = b.x) && (decide (a.y = b.y) && true)
theorem ptEq_iff {a b : Pt} : ptEq a b = true ↔ a = b := by
  cases a; cases b; simp [ptEq]
def turnBad (l : List Pt) (i : Nat) : Bool := ptEq (cornerP l i) (cornerP l (i + 1)) || onE (cornerP l i) (cornerP l (i + 1)) (cornerP l (i + 2)) || onE (cornerP l (i + 1)) (cornerP l (i + 2)) (cornerP l i)
def pairBad (l : List Pt) (i k : Nat) : Bool := decide ((k + 1) % l.length ≠ i) && meetE (cornerP l i) (cornerP l (i + 1)) (cornerP l k) (cornerP l (k + 1))
def simpleE (l : List Pt) : Bool := (List.range l.length).all fun i => !turnBad l i && (List.range l.length).all fun k => !(decide (i + 2 ≤ k) && pairBad l i k)
theorem simple_turn {l : List Pt} {i : Nat} (hi : i < l.length) (h : turnBad l i = true) : simpleE l = false := by
  rw [simpleE, List.all_eq_false]
  exact ⟨i, List.mem_range.2 hi, by simp [h]⟩
theorem simple_pair {l : List Pt} {i k : Nat} (hi : i < l.length) (hk : k < l.length) (hik : i + 2 ≤ k) (h : pairBad l i k = true) : simpleE l = false := by
  rw [simpleE, List.all_eq_false]
  refine ⟨i, List.mem_range.2 hi, ?_⟩
  have : ((List.range l.length).all fun k => !(decide (i + 2 ≤ k) && pairBad l i k)) = false := by
    rw [List.all_eq_false]
    exact ⟨k, List.mem_range.2 hk, by simp [h, hik]⟩
  rw [this, Bool.and_false]; simp
theorem simple_yes {l : List Pt} (h1 : ∀ i, i < l.length → turnBad l i = false) (h2 : ∀ i, i < l.length → ∀ k, k < l.length → i + 2 ≤ k → pairBad l i k = false) : simpleE l = true := by
  rw [simpleE, List.all_eq_true]
  intro i hi
  rw [h1 i (List.mem_range.1 hi), Bool.not_false, Bool.true_and, List.all_eq_true]
  intro k hk
  by_cases hik : i + 2 ≤ k
  · rw [h2 i (List.mem_range.1 hi) k (List.mem_range.1 hk) hik, Bool.and_false]; rfl
  · simp [hik]

theorem c_simple (l : List Pt) (h3 : 3 ≤ l.length) (hl : l.length < 1000000000) (hok : ∀ q ∈ l, ptOK q = true) : Contract Try.prog 187 [.sl (l.map encPt)] (.ret (.bool (simpleE l))) := by
  refine contract_of mix Try.func187 rfl rfl (by rw [Try.ntmps187]; exact Nat.le_of_ble_eq_true rfl) ?_; rw [Try.results187, Try.ntmps187]; simp only [argsE, Nat.reduceAdd]
  repeat' first
           | (with_reducible apply go_op)
           | (with_reducible apply go_next)
           | ((with_reducible (show evOp _ _ _ _ _ _)); first
             | ((with_reducible (show evOp _ (.move _) _ _ _ _)) ; first | ((with_reducible apply go_mv_int); rfl; rfl) | ((with_reducible apply go_mv_bool); rfl; rfl) | ((with_reducible apply go_mv_sl); rfl; rfl))
             | ((with_reducible apply go_as))
             | (((with_reducible apply go_len); rfl; rfl)))
           | ((with_reducible (show evOps _ _ _ _ _ _)); first
             | (with_reducible apply go_nil))
           | ((with_reducible (show evG _ _ _ _ _)); first
             | (with_reducible apply go_seq)
             | (with_reducible apply go_region)
             | (with_reducible apply go_block))
           | (with_reducible apply go_kseq)
  refine go_count l.length (fun i => ⟨[(12, .int .i64 i), (11, .int .i64 l.length), (3, .int .i64 l.length), (0, .sl (l.map encPt))], [], 0, 69⟩) (fun i => ∀ j, j < i → turnBad l j = false ∧ ∀ k, k < l.length → j + 2 ≤ k → pairBad l j k = false)
    (entails_eq (nx := 0) (k := 0) (ns := []) (ks := [12, 11, 3, 0]) [] rfl (by simp) (by kernel_rfl)) (by omega) ?_
  intro i hi hC
  by_cases h2 : i < l.length
  · have h0 : 0 < l.length := by omega
    have ec := cornerP_lt h2
    have o0 : ptOK l[i] = true := hok _ (List.getElem_mem h2)
    have o1 := hok _ (cornerP_mem h0 (i + 1))
    have o2 := hok _ (cornerP_mem h0 (i + 2))
    have k1 : Contract Try.prog 188 [.sl (l.map encPt), .int .i64 ((i : Int) + 1)] (.ret (.agg (encPt (cornerP l (i + 1))))) := c_corner l h0 (by omega) (i + 1)
    have k2 : Contract Try.prog 188 [.sl (l.map encPt), .int .i64 ((i : Int) + 2)] (.ret (.agg (encPt (cornerP l (i + 2))))) := c_corner l h0 (by omega) (i + 2)
    have n1 := c_on l[i] (cornerP l (i + 1)) (cornerP l (i + 2)) o0 o1 o2
    have n2 := c_on (cornerP l (i + 1)) (cornerP l (i + 2)) l[i] o1 o2 o0
    have hbad : turnBad l i = (ptEq l[i] (cornerP l (i + 1)) || onE l[i] (cornerP l (i + 1)) (cornerP l (i + 2)) || onE (cornerP l (i + 1)) (cornerP l (i + 2)) l[i]) := by rw [turnBad, ec]
    have hst := fun h => simple_turn (l := l) h2 h
    rw [hbad] at hst
    generalize hb : cornerP l (i + 1) = b at *
    generalize hc : cornerP l (i + 2) = c at *
    have hCi : ∀ j, j < i → turnBad l j = false ∧ ∀ k, k < l.length → j + 2 ≤ k → pairBad l j k = false := hC
    repeat' first
           | (with_reducible apply go_op)
           | (with_reducible apply go_next)
           | ((with_reducible (show evOp _ _ _ _ _ _)); first
             | ((with_reducible (show evOp _ (.move _) _ _ _ _)) ; first | ((with_reducible apply go_mv_int); rfl; rfl) | ((with_reducible apply go_mv_bool); rfl; rfl) | ((with_reducible apply go_mv_sl); rfl; rfl))
             | ((with_reducible apply go_as))
             | ((with_reducible (show evOp _ (.load _ _) _ _ _ _)) ; first | ((with_reducible apply go_ld_ptr); rfl; rfl; rfl) | ((with_reducible apply go_ld_agg); rfl; rfl; rfl; rfl))
             | (((with_reducible apply go_index_nat); rfl; rfl; (with_reducible rfl); (intro; rfl); rfl; omega; (intro hlt)))
             | ((with_reducible (show evOp _ (.binOp _ _ _ _ _) _ _ _ _)) ; first | ((with_reducible apply go_cmp); rfl; rfl; rfl; rfl) | ((with_reducible apply go_add); rfl; rfl; rfl; omega) | ((with_reducible apply go_eql_agg); rfl; rfl; rfl; rfl))
             | ((with_reducible (show evOp _ (.call _) _ _ _ _)) ; first | ((with_reducible apply go_fn_plain); rfl; (exact k1); rfl; (exact Nat.le_of_ble_eq_true rfl); rfl) | ((with_reducible apply go_fn_plain); rfl; (exact k2); rfl; (exact Nat.le_of_ble_eq_true rfl); rfl) | ((with_reducible apply go_fn_bool); rfl; (exact n1); rfl) | ((with_reducible apply go_fn_bool); rfl; (exact n2); rfl))
             | (((with_reducible apply go_st_agg); rfl; rfl; rfl; rfl; rfl; rfl; rfl))
             | (((with_reducible apply go_pick); rfl; rfl; rfl))
             | (((with_reducible apply go_alloc); rfl; rfl; rfl)))
           | ((with_reducible (show evOps _ _ _ _ _ _)); first
             | (with_reducible apply go_nil)
             | ((with_reducible apply go_run); rfl; rfl)
             | ((with_reducible apply go_pass); rfl; rfl; rfl)
             | (((with_reducible apply go_guard); rfl) <;> (intro h; simp only [h, Bool.not_true, Bool.not_false]; (try with_reducible (refine ⟨rfl, ?_⟩)); try simp only [decide_eq_true_eq, decide_eq_false_iff_not, Bool.not_eq_true', Bool.not_eq_false', Bool.not_true, Bool.not_false] at h; try exact absurd trivial h))
             | ((with_reducible apply go_pre); rfl)
             | ((with_reducible apply go_pre_stop); rfl)
             | ((with_reducible apply go_suf); rfl)
             | ((with_reducible apply go_suf_stop); rfl))
           | ((with_reducible (show evG _ _ _ _ _)); first
             | (with_reducible apply go_seq)
             | (with_reducible apply go_region)
             | ((with_reducible apply go_cond_t); rfl; rfl)
             | (((with_reducible apply go_cond); rfl) <;> (intro h; simp only [h]; try simp only [decide_eq_true_eq, decide_eq_false_iff_not, Bool.not_eq_true', Bool.not_eq_false', Bool.not_true, Bool.not_false] at h; try exact absurd trivial h))
             | ((with_reducible apply go_order); kernel_rfl; rfl)
             | (with_reducible apply go_ret)
             | (with_reducible apply go_skipc)
             | (with_reducible apply go_block)
             | (with_reducible apply go_exit))
           | (with_reducible apply go_kseq)
           | (with_reducible apply go_ksuf)
           | (with_reducible apply go_kseq_ret)
           | (with_reducible apply go_kblock_ret)
           | (with_reducible apply go_kblock_exit)
           | (with_reducible apply go_kseq_exit)
           | ((with_reducible apply end_bool); rfl)
    all_goals try (exfalso; omega)
    · exact (hst (by simp [*])).symm
    · have hb0 : turnBad l i = false := by
        have e1 : ptEq l[i] b = false := ‹(decide (l[i].x = b.x) && (decide (l[i].y = b.y) && true)) = false›
        rw [hbad]; simp [*]
      refine go_count l.length (fun j => ⟨[(8, .int .i64 ((i + 2 + j : Nat) : Int)), (12, .int .i64 i), (11, .int .i64 l.length), (4, .int .i64 i), (3, .int .i64 l.length), (5, .op 0 0 0), (6, .op 1 0 0), (0, .sl (l.map encPt))], [(0, ⟨2, true, [encPt l[i]]⟩), (1, ⟨2, true, [encPt b]⟩)], 32, 69⟩) (fun j => ∀ k, k < l.length → i + 2 ≤ k → k < i + 2 + j → pairBad l i k = false)
        (entails_eq (nx := 32) (k := 0) (ns := []) (ks := [8, 12, 11, 4, 3, 5, 6, 0]) [(480, 0), (512, 1)] rfl (by simp) (by kernel_rfl)) (by omega) ?_
      intro j hj hC2
      by_cases h5 : i + 2 + j < l.length
      · have ek := cornerP_lt h5
        have q0 : ptOK (l[i + 2 + j]) = true := hok _ (List.getElem_mem h5)
        have q1 := hok _ (cornerP_mem h0 (i + 2 + j + 1))
        have k3 : Contract Try.prog 188 [.sl (l.map encPt), .int .i64 (((i + 2 + j : Nat) : Int) + 1)] (.ret (.agg (encPt (cornerP l (i + 2 + j + 1))))) := c_corner l h0 (by omega) (i + 2 + j + 1)
        have mt := c_meet l[i] b l[i + 2 + j] (cornerP l (i + 2 + j + 1)) o0 o1 q0 q1
        have hpb : pairBad l i (i + 2 + j) = (decide ((i + 2 + j + 1) % l.length ≠ i) && meetE l[i] b l[i + 2 + j] (cornerP l (i + 2 + j + 1))) := by rw [pairBad, ec, ek, hb]
        have hsp := fun h => simple_pair (l := l) h2 h5 (by omega) h
        rw [hpb] at hsp
        have hmod : (((i + 2 + j : Nat) : Int) + 1) % (l.length : Int) = (((i + 2 + j + 1) % l.length : Nat) : Int) := by
          rw [Int.natCast_emod]; rfl
        generalize cornerP l (i + 2 + j + 1) = d at *
        generalize hk : i + 2 + j = k at *
        repeat' first
           | (with_reducible apply go_op)
           | (with_reducible apply go_next)
           | ((with_reducible (show evOp _ _ _ _ _ _)); first
             | ((with_reducible (show evOp _ (.move _) _ _ _ _)) ; first | ((with_reducible apply go_mv_int); rfl; rfl) | ((with_reducible apply go_mv_bool); rfl; rfl) | ((with_reducible apply go_mv_sl); rfl; rfl))
             | ((with_reducible apply go_as))
             | ((with_reducible (show evOp _ (.load _ _) _ _ _ _)) ; first | ((with_reducible apply go_ld_ptr); rfl; rfl; rfl) | ((with_reducible apply go_ld_agg); rfl; rfl; rfl; rfl))
             | (((with_reducible apply go_index_nat); rfl; rfl; (with_reducible rfl); (intro; rfl); rfl; omega; (intro hlt)))
             | ((with_reducible (show evOp _ (.binOp _ _ _ _ _) _ _ _ _)) ; first | ((with_reducible apply go_cmp); rfl; rfl; rfl; rfl) | ((with_reducible apply go_add); rfl; rfl; rfl; omega) | ((with_reducible apply go_rem_pos); rfl; rfl; rfl; omega))
             | ((with_reducible (show evOp _ (.call _) _ _ _ _)) ; first | ((with_reducible apply go_fn_plain); rfl; (exact k3); rfl; (exact Nat.le_of_ble_eq_true rfl); rfl) | ((with_reducible apply go_fn_bool); rfl; (exact mt); rfl))
             | (((with_reducible apply go_pick); rfl; rfl; rfl)))
           | ((with_reducible (show evOps _ _ _ _ _ _)); first
             | (with_reducible apply go_nil)
             | ((with_reducible apply go_run); rfl; rfl)
             | ((with_reducible apply go_pass); rfl; rfl; rfl)
             | (((with_reducible apply go_guard); rfl) <;> (intro h; simp only [h, Bool.not_true, Bool.not_false]; (try with_reducible (refine ⟨rfl, ?_⟩)); try simp only [decide_eq_true_eq, decide_eq_false_iff_not, Bool.not_eq_true', Bool.not_eq_false', Bool.not_true, Bool.not_false] at h; try exact absurd trivial h))
             | ((with_reducible apply go_pre); rfl)
             | (with_reducible apply go_pre_nil)
             | ((with_reducible apply go_suf); rfl)
             | (with_reducible apply go_suf_nil))
           | ((with_reducible (show evG _ _ _ _ _)); first
             | (with_reducible apply go_seq)
             | (with_reducible apply go_region)
             | ((with_reducible apply go_cond_f); rfl; rfl)
             | (((with_reducible apply go_cond); rfl) <;> (intro h; simp only [h]; try simp only [decide_eq_true_eq, decide_eq_false_iff_not, Bool.not_eq_true', Bool.not_eq_false', Bool.not_true, Bool.not_false] at h; try exact absurd trivial h))
             | ((with_reducible apply go_order); kernel_rfl; rfl)
             | (with_reducible apply go_ret)
             | (with_reducible apply go_skipc)
             | (with_reducible apply go_block)
             | (with_reducible apply go_exit))
           | (with_reducible apply go_kseq)
           | (with_reducible apply go_ksuf)
           | (with_reducible apply go_kseq_ret)
           | (with_reducible apply go_kblock)
           | (with_reducible apply go_kblock_ret)
           | (with_reducible apply go_kblock_exit)
           | (with_reducible apply go_kseq_exit)
           | ((with_reducible apply end_bool); rfl)
        all_goals first
          | (exfalso; omega)
          | (refine (hsp ?_).symm
             simp only [Bool.and_eq_true, decide_eq_true_eq]
             exact ⟨by omega, by assumption⟩)
          | (refine ⟨by omega, fun k' hk' hk2 hk3 => ?_, ?_⟩
             · by_cases hlast : k' < k
               · exact hC2 k' hk' hk2 (by omega)
               · have : k' = k := by omega
                 subst this
                 rw [hpb]
                 by_cases hm2 : (k' + 1) % l.length = i
                 · simp only [hm2, ne_eq, not_true_eq_false, decide_false, Bool.false_and]
                 · have : meetE l[i] b l[k'] d = false := by first | assumption | (exfalso; omega)
                   rw [this, Bool.and_false]
             · rw [show i + 2 + (j + 1) = k + 1 by omega]
               exact entails_eq (nx := 32) (k := 0) (ns := []) (ks := [8, 12, 11, 4, 3, 5, 6, 0]) [(0, 0), (1, 1)] rfl (by simp) (by kernel_rfl))
          | trace_state
      · repeat' first
           | (with_reducible apply go_op)
           | (with_reducible apply go_next)
           | ((with_reducible (show evOp _ _ _ _ _ _)); first
             | ((with_reducible (show evOp _ (.move _) _ _ _ _)) ; first | ((with_reducible apply go_mv_int); rfl; rfl) | ((with_reducible apply go_mv_bool); rfl; rfl) | ((with_reducible apply go_mv_sl); rfl; rfl))
             | ((with_reducible apply go_as))
             | ((with_reducible (show evOp _ (.load _ _) _ _ _ _)) ; first | ((with_reducible apply go_ld_ptr); rfl; rfl; rfl) | ((with_reducible apply go_ld_agg); rfl; rfl; rfl; rfl))
             | (((with_reducible apply go_index_nat); rfl; rfl; (with_reducible rfl); (intro; rfl); rfl; omega; (intro hlt)))
             | ((with_reducible (show evOp _ (.binOp _ _ _ _ _) _ _ _ _)) ; first | ((with_reducible apply go_cmp); rfl; rfl; rfl; rfl) | ((with_reducible apply go_add); rfl; rfl; rfl; omega) | ((with_reducible apply go_rem_pos); rfl; rfl; rfl; omega))
             | (((with_reducible apply go_pick); rfl; rfl; rfl)))
           | ((with_reducible (show evOps _ _ _ _ _ _)); first
             | (with_reducible apply go_nil)
             | ((with_reducible apply go_run); rfl; rfl)
             | ((with_reducible apply go_pass); rfl; rfl; rfl)
             | (((with_reducible apply go_guard); rfl) <;> (intro h; simp only [h, Bool.not_true, Bool.not_false]; (try with_reducible (refine ⟨rfl, ?_⟩)); try simp only [decide_eq_true_eq, decide_eq_false_iff_not, Bool.not_eq_true', Bool.not_eq_false', Bool.not_true, Bool.not_false] at h; try exact absurd trivial h))
             | ((with_reducible apply go_pre); rfl)
             | (with_reducible apply go_pre_nil)
             | ((with_reducible apply go_suf); rfl)
             | (with_reducible apply go_suf_nil))
           | ((with_reducible (show evG _ _ _ _ _)); first
             | (with_reducible apply go_seq)
             | (with_reducible apply go_region)
             | ((with_reducible apply go_cond_f); rfl; rfl)
             | (((with_reducible apply go_cond); rfl) <;> (intro h; simp only [h]; try simp only [decide_eq_true_eq, decide_eq_false_iff_not, Bool.not_eq_true', Bool.not_eq_false', Bool.not_true, Bool.not_false] at h; try exact absurd trivial h))
             | ((with_reducible apply go_order); kernel_rfl; rfl)
             | (with_reducible apply go_skipc)
             | (with_reducible apply go_block)
             | (with_reducible apply go_exit))
           | (with_reducible apply go_kseq)
           | (with_reducible apply go_ksuf)
           | (with_reducible apply go_kblock)
           | (with_reducible apply go_kblock_exit)
           | (with_reducible apply go_kseq_exit)
        all_goals first
          | (exfalso; omega)
          | (refine ⟨h2, fun j' hj' => ?_, entails_eq (nx := 0) (k := 0) (ns := []) (ks := [12, 11, 3, 0]) [] rfl (by simp) (by kernel_rfl)⟩
             rcases Nat.lt_succ_iff_lt_or_eq.1 hj' with h' | rfl
             · exact hCi j' h'
             · exact ⟨hb0, fun k hk hik => hC2 k hk hik (by omega)⟩)
          | trace_state
    · exact (hst (by simp [*])).symm
    · have e1 : ptEq l[i] b = true := ‹(decide (l[i].x = b.x) && (decide (l[i].y = b.y) && true)) = true›
      exact (hst (by simp [*])).symm
  · repeat' first
           | (with_reducible apply go_op)
           | (with_reducible apply go_next)
           | ((with_reducible (show evOp _ _ _ _ _ _)); first
             | ((with_reducible (show evOp _ (.move _) _ _ _ _)) ; first | ((with_reducible apply go_mv_int); rfl; rfl) | ((with_reducible apply go_mv_bool); rfl; rfl) | ((with_reducible apply go_mv_sl); rfl; rfl))
             | ((with_reducible apply go_as))
             | (((with_reducible apply go_ld_ptr); rfl; rfl; rfl))
             | (((with_reducible apply go_index_nat); rfl; rfl; (with_reducible rfl); (intro; rfl); rfl; omega; (intro hlt)))
             | ((with_reducible (show evOp _ (.binOp _ _ _ _ _) _ _ _ _)) ; first | ((with_reducible apply go_cmp); rfl; rfl; rfl; rfl) | ((with_reducible apply go_add); rfl; rfl; rfl; omega)))
           | ((with_reducible (show evOps _ _ _ _ _ _)); first
             | (with_reducible apply go_nil)
             | ((with_reducible apply go_pre); rfl))
           | ((with_reducible (show evG _ _ _ _ _)); first
             | (with_reducible apply go_seq)
             | (with_reducible apply go_region)
             | (((with_reducible apply go_cond); rfl) <;> (intro h; simp only [h]; try simp only [decide_eq_true_eq, decide_eq_false_iff_not, Bool.not_eq_true', Bool.not_eq_false', Bool.not_true, Bool.not_false] at h; try exact absurd trivial h))
             | ((with_reducible apply go_order); kernel_rfl; rfl)
             | (with_reducible apply go_ret)
             | (with_reducible apply go_skipc)
             | (with_reducible apply go_block)
             | (with_reducible apply go_exit))
           | (with_reducible apply go_kseq)
           | (with_reducible apply go_kblock_exit)
           | (with_reducible apply go_kseq_exit)
           | ((with_reducible apply end_bool); rfl)
    all_goals first
      | (exfalso; omega)
      | exact (simple_yes (fun j hj => (hC j (by omega)).1) fun j hj k hk hjk => (hC j (by omega)).2 k hk hjk).symm
      | trace_state
end Go.Pv.Geo

open Go Go.Proofs Go.Pv
set_option maxHeartbeats 4000000
set_option maxRecDepth 100000
set_option linter.unusedSimpArgs false
set_option linter.unusedVariables false
namespace Go.Pv.Geo
def shapesD : List D := [.int .i64 10, .clo (.func 183) [] [], .int .i64 8, .clo (.func 184) [] [], .int .i64 2, .clo (.func 185) [] [], .int .i64 3, .clo (.func 186) [] []]
theorem c_shapes : Contract Try.prog 157 [] (.ret (.agg shapesD)) := by
  refine contract_of mix Try.func157 rfl rfl (by rw [Try.ntmps157]; exact Nat.le_of_ble_eq_true rfl) ?_; rw [Try.results157, Try.ntmps157]; simp only [argsE, Nat.reduceAdd]
  repeat' first
           | (with_reducible apply go_op)
           | (with_reducible apply go_next)
           | ((with_reducible (show evOp _ _ _ _ _ _)); first
             | (((with_reducible apply go_st_agg); rfl; rfl; rfl; rfl; rfl; rfl; rfl))
             | (((with_reducible apply go_build); rfl; rfl))
             | (((with_reducible apply go_alloc); rfl; rfl; rfl)))
           | ((with_reducible (show evOps _ _ _ _ _ _)); first
             | (with_reducible apply go_nil))
           | ((with_reducible (show evG _ _ _ _ _)); first
             | (with_reducible apply go_seq)
             | (with_reducible apply go_region)
             | (with_reducible apply go_ret))
           | (with_reducible apply go_kseq)
           | ((with_reducible apply end_ret); apply fin1; rfl; rfl; rfl)
  all_goals kernel_rfl
theorem c_shapes1 (l : List Pt) : Contract Try.prog 183 [.sl (l.map encPt)] (.ret (.bool (decide (l.length < 3)))) := by
  refine contract_of mix Try.func183 rfl rfl (by rw [Try.ntmps183]; exact Nat.le_of_ble_eq_true rfl) ?_; rw [Try.results183, Try.ntmps183]; simp only [argsE, Nat.reduceAdd]
  repeat' first
           | (with_reducible apply go_op)
           | (with_reducible apply go_next)
           | ((with_reducible (show evOp _ _ _ _ _ _)); first
             | ((with_reducible (show evOp _ (.move _) _ _ _ _)) ; first | ((with_reducible apply go_mv_bool); rfl; rfl) | ((with_reducible apply go_mv_sl); rfl; rfl))
             | ((with_reducible apply go_as))
             | (((with_reducible apply go_cmp); rfl; rfl; rfl; rfl))
             | (((with_reducible apply go_len); rfl; rfl)))
           | ((with_reducible (show evOps _ _ _ _ _ _)); first
             | (with_reducible apply go_nil))
           | ((with_reducible (show evG _ _ _ _ _)); first
             | (with_reducible apply go_seq)
             | (with_reducible apply go_region)
             | (with_reducible apply go_ret))
           | (with_reducible apply go_kseq)
           | ((with_reducible apply end_bool); rfl)
  all_goals (exact decide_eq_decide.2 (by omega))
theorem c_shapes2 (l : List Pt) : Contract Try.prog 184 [.sl (l.map encPt)] (.ret (.bool (decide (40 < l.length)))) := by
  refine contract_of mix Try.func184 rfl rfl (by rw [Try.ntmps184]; exact Nat.le_of_ble_eq_true rfl) ?_; rw [Try.results184, Try.ntmps184]; simp only [argsE, Nat.reduceAdd]
  repeat' first
           | (with_reducible apply go_op)
           | (with_reducible apply go_next)
           | ((with_reducible (show evOp _ _ _ _ _ _)); first
             | ((with_reducible (show evOp _ (.move _) _ _ _ _)) ; first | ((with_reducible apply go_mv_bool); rfl; rfl) | ((with_reducible apply go_mv_sl); rfl; rfl))
             | ((with_reducible apply go_as))
             | (((with_reducible apply go_cmp); rfl; rfl; rfl; rfl))
             | (((with_reducible apply go_len); rfl; rfl)))
           | ((with_reducible (show evOps _ _ _ _ _ _)); first
             | (with_reducible apply go_nil))
           | ((with_reducible (show evG _ _ _ _ _)); first
             | (with_reducible apply go_seq)
             | (with_reducible apply go_region)
             | (with_reducible apply go_ret))
           | (with_reducible apply go_kseq)
           | ((with_reducible apply end_bool); rfl)
  all_goals (exact decide_eq_decide.2 (by omega))
theorem c_shapes3 (l : List Pt) (hl : l.length < 1000000000000) : Contract Try.prog 185 [.sl (l.map encPt)] (.ret (.bool (l.any fun p => !ptOK p))) := by
  refine contract_of mix Try.func185 rfl rfl (by rw [Try.ntmps185]; exact Nat.le_of_ble_eq_true rfl) ?_; rw [Try.results185, Try.ntmps185]; simp only [argsE, Nat.reduceAdd]
  repeat' first
           | (with_reducible apply go_op)
           | (with_reducible apply go_next)
           | ((with_reducible (show evOp _ _ _ _ _ _)); first
             | ((with_reducible (show evOp _ (.move _) _ _ _ _)) ; first | ((with_reducible apply go_mv_bool); rfl; rfl) | ((with_reducible apply go_mv_sl); rfl; rfl))
             | ((with_reducible apply go_as))
             | (((with_reducible apply go_fn_bool); rfl; (exact c_outside l hl); rfl)))
           | ((with_reducible (show evOps _ _ _ _ _ _)); first
             | (with_reducible apply go_nil))
           | ((with_reducible (show evG _ _ _ _ _)); first
             | (with_reducible apply go_seq)
             | (with_reducible apply go_region)
             | (with_reducible apply go_ret))
           | (with_reducible apply go_kseq)
           | ((with_reducible apply end_bool); rfl)
           | (with_reducible rfl)
theorem c_shapes4 (l : List Pt) (h3 : 3 ≤ l.length) (hl : l.length < 1000000000) (hok : ∀ q ∈ l, ptOK q = true) : Contract Try.prog 186 [.sl (l.map encPt)] (.ret (.bool (!simpleE l))) := by
  refine contract_of mix Try.func186 rfl rfl (by rw [Try.ntmps186]; exact Nat.le_of_ble_eq_true rfl) ?_; rw [Try.results186, Try.ntmps186]; simp only [argsE, Nat.reduceAdd]
  repeat' first
           | (with_reducible apply go_op)
           | (with_reducible apply go_next)
           | ((with_reducible (show evOp _ _ _ _ _ _)); first
             | ((with_reducible (show evOp _ (.move _) _ _ _ _)) ; first | ((with_reducible apply go_mv_bool); rfl; rfl) | ((with_reducible apply go_mv_sl); rfl; rfl))
             | ((with_reducible apply go_as))
             | (((with_reducible apply go_fn_bool); rfl; (exact c_simple l h3 hl hok); rfl))
             | (((with_reducible apply go_not); rfl; rfl)))
           | ((with_reducible (show evOps _ _ _ _ _ _)); first
             | (with_reducible apply go_nil))
           | ((with_reducible (show evG _ _ _ _ _)); first
             | (with_reducible apply go_seq)
             | (with_reducible apply go_region)
             | (with_reducible apply go_ret))
           | (with_reducible apply go_kseq)
           | ((with_reducible apply end_bool); rfl)
           | (with_reducible rfl)
/-- The error of a polygon. -/
def polyE (l : List Pt) : Int := if l.length < 3 then 10 else if 40 < l.length then 8 else if (l.any fun p => !ptOK p) = true then 2 else if simpleE l = true then 0 else 3
theorem poly_ok {l : List Pt} (h : polyE l = 0) : (3 ≤ l.length ∧ l.length ≤ 40) ∧ (∀ p ∈ l, ptOK p = true) ∧ simpleE l = true := by
  unfold polyE at h
  (repeat' split at h) <;> first | (cases h; done) | skip
  rename_i h1 h2 h3 h4
  refine ⟨by omega, fun p hp => ?_, h4⟩
  simp only [List.any_eq_true, not_exists, not_and] at h3
  simpa using h3 p hp
theorem c_CheckPolygon (l : List Pt) : Contract Try.prog 113 [.sl (l.map encPt)] (.ret (.int .i64 (polyE l))) := by
  have s1 := c_shapes1 l
  have s2 := c_shapes2 l
  refine contract_of mix Try.func113 rfl rfl (by rw [Try.ntmps113]; exact Nat.le_of_ble_eq_true rfl) ?_; rw [Try.results113, Try.ntmps113]; simp only [argsE, Nat.reduceAdd]
  repeat' first
           | (with_reducible apply go_op)
           | (with_reducible apply go_next)
           | ((with_reducible (show evOp _ _ _ _ _ _)); first
             | (((with_reducible apply go_mv_int); rfl; rfl))
             | ((with_reducible apply go_as)))
           | ((with_reducible (show evOps _ _ _ _ _ _)); first
             | (with_reducible apply go_nil))
           | ((with_reducible (show evG _ _ _ _ _)); first
             | (with_reducible apply go_seq)
             | (with_reducible apply go_region))
           | (with_reducible apply go_kseq)
  refine go_call_fn (args := []) (args' := []) rfl c_shapes rfl (Nat.le_of_ble_eq_true rfl) rfl ?_
  repeat' first
           | (with_reducible apply go_op)
           | (with_reducible apply go_next)
           | ((with_reducible (show evOp _ _ _ _ _ _)); first
             | (((with_reducible apply go_mv_int); rfl; rfl)))
           | ((with_reducible (show evOps _ _ _ _ _ _)); first
             | (with_reducible apply go_nil))
           | ((with_reducible (show evG _ _ _ _ _)); first
             | (with_reducible apply go_block))
           | (with_reducible apply go_kseq)
  refine go_count 4 (fun i => ⟨[(6, .int .i64 i), (5, .agg shapesD), (0, .sl (l.map encPt))], [], 0, 16⟩) (fun i => (1 ≤ i → 3 ≤ l.length) ∧ (2 ≤ i → l.length ≤ 40) ∧ (3 ≤ i → ∀ q ∈ l, ptOK q = true) ∧ (4 ≤ i → simpleE l = true))
    (entails_eq (nx := 0) (k := 0) (ns := []) (ks := [6, 5, 0]) [] rfl (by simp) (by kernel_rfl)) ⟨by omega, by omega, by omega, by omega⟩ ?_
  intro i hi hC
  have hc4 : i = 0 ∨ i = 1 ∨ i = 2 ∨ i = 3 ∨ i = 4 := by omega
  rcases hc4 with rfl | rfl | rfl | rfl | rfl
  · repeat' first
           | (with_reducible apply go_op)
           | (with_reducible apply go_next)
           | ((with_reducible (show evOp _ _ _ _ _ _)); first
             | (((with_reducible apply go_mv_sl); rfl; rfl))
             | (((with_reducible apply go_load_own); rfl; rfl; rfl; rfl))
             | (((with_reducible apply go_fieldAddr_own); rfl; rfl; rfl))
             | (((with_reducible apply go_cmp); rfl; rfl; rfl; rfl))
             | (((with_reducible apply go_st_agg); rfl; rfl; rfl; rfl; rfl; rfl; rfl))
             | (((with_reducible apply go_index_agg); rfl; rfl; rfl; omega; rfl))
             | (((with_reducible apply go_alloc); rfl; rfl; rfl)))
           | ((with_reducible (show evOps _ _ _ _ _ _)); first
             | (with_reducible apply go_nil))
           | ((with_reducible (show evG _ _ _ _ _)); first
             | (with_reducible apply go_seq)
             | (with_reducible apply go_region)
             | ((with_reducible apply go_cond_t); rfl; rfl)
             | (with_reducible apply go_skipc)
             | (with_reducible apply go_block))
           | (with_reducible apply go_kseq)
    refine go_clo_bool (g := 183) (ys := []) (d1 := .sl (l.map encPt)) rfl rfl (fun _ _ => rfl) s1 rfl ?_
    repeat' first
           | (with_reducible apply go_op)
           | (with_reducible apply go_next)
           | ((with_reducible (show evOp _ _ _ _ _ _)); first
             | (((with_reducible apply go_mv_int); rfl; rfl))
             | ((with_reducible apply go_as))
             | (((with_reducible apply go_load_own); rfl; rfl; rfl; rfl))
             | (((with_reducible apply go_fieldAddr_own); rfl; rfl; rfl))
             | (((with_reducible apply go_add); rfl; rfl; rfl; omega)))
           | ((with_reducible (show evOps _ _ _ _ _ _)); first
             | (with_reducible apply go_nil))
           | ((with_reducible (show evG _ _ _ _ _)); first
             | (with_reducible apply go_seq)
             | (with_reducible apply go_region)
             | (((with_reducible apply go_cond); rfl) <;> (intro h; simp only [h]; try simp only [decide_eq_true_eq, decide_eq_false_iff_not, Bool.not_eq_true', Bool.not_eq_false', Bool.not_true, Bool.not_false] at h; try exact absurd trivial h))
             | (with_reducible apply go_ret)
             | (with_reducible apply go_skipc))
           | (with_reducible apply go_kseq)
           | (with_reducible apply go_kseq_ret)
           | (with_reducible apply go_kblock)
           | (with_reducible apply go_kblock_ret)
           | ((with_reducible apply end_int); rfl)
    · unfold polyE; rw [if_pos (by omega)]
    · exact ⟨by omega, ⟨by omega, by omega, by omega, by omega⟩, entails_eq (nx := 0) (k := 0) (ns := []) (ks := [6, 5, 0]) [] rfl (by simp) (by kernel_rfl)⟩
  · have h3 := hC.1 (by omega)
    repeat' first
           | (with_reducible apply go_op)
           | (with_reducible apply go_next)
           | ((with_reducible (show evOp _ _ _ _ _ _)); first
             | (((with_reducible apply go_mv_sl); rfl; rfl))
             | (((with_reducible apply go_load_own); rfl; rfl; rfl; rfl))
             | (((with_reducible apply go_fieldAddr_own); rfl; rfl; rfl))
             | (((with_reducible apply go_cmp); rfl; rfl; rfl; rfl))
             | (((with_reducible apply go_st_agg); rfl; rfl; rfl; rfl; rfl; rfl; rfl))
             | (((with_reducible apply go_index_agg); rfl; rfl; rfl; omega; rfl))
             | (((with_reducible apply go_alloc); rfl; rfl; rfl)))
           | ((with_reducible (show evOps _ _ _ _ _ _)); first
             | (with_reducible apply go_nil))
           | ((with_reducible (show evG _ _ _ _ _)); first
             | (with_reducible apply go_seq)
             | (with_reducible apply go_region)
             | ((with_reducible apply go_cond_t); rfl; rfl)
             | (with_reducible apply go_skipc)
             | (with_reducible apply go_block))
           | (with_reducible apply go_kseq)
    refine go_clo_bool (g := 184) (ys := []) (d1 := .sl (l.map encPt)) rfl rfl (fun _ _ => rfl) s2 rfl ?_
    repeat' first
           | (with_reducible apply go_op)
           | (with_reducible apply go_next)
           | ((with_reducible (show evOp _ _ _ _ _ _)); first
             | (((with_reducible apply go_mv_int); rfl; rfl))
             | ((with_reducible apply go_as))
             | (((with_reducible apply go_load_own); rfl; rfl; rfl; rfl))
             | (((with_reducible apply go_fieldAddr_own); rfl; rfl; rfl))
             | (((with_reducible apply go_add); rfl; rfl; rfl; omega)))
           | ((with_reducible (show evOps _ _ _ _ _ _)); first
             | (with_reducible apply go_nil))
           | ((with_reducible (show evG _ _ _ _ _)); first
             | (with_reducible apply go_seq)
             | (with_reducible apply go_region)
             | (((with_reducible apply go_cond); rfl) <;> (intro h; simp only [h]; try simp only [decide_eq_true_eq, decide_eq_false_iff_not, Bool.not_eq_true', Bool.not_eq_false', Bool.not_true, Bool.not_false] at h; try exact absurd trivial h))
             | (with_reducible apply go_ret)
             | (with_reducible apply go_skipc))
           | (with_reducible apply go_kseq)
           | (with_reducible apply go_kseq_ret)
           | (with_reducible apply go_kblock)
           | (with_reducible apply go_kblock_ret)
           | ((with_reducible apply end_int); rfl)
    · unfold polyE; rw [if_neg (by omega), if_pos (by omega)]
    · exact ⟨by omega, ⟨by omega, by omega, by omega, by omega⟩, entails_eq (nx := 0) (k := 0) (ns := []) (ks := [6, 5, 0]) [] rfl (by simp) (by kernel_rfl)⟩
  · have h3 := hC.1 (by omega)
    have h4 := hC.2.1 (by omega)
    repeat' first
           | (with_reducible apply go_op)
           | (with_reducible apply go_next)
           | ((with_reducible (show evOp _ _ _ _ _ _)); first
             | (((with_reducible apply go_mv_sl); rfl; rfl))
             | (((with_reducible apply go_load_own); rfl; rfl; rfl; rfl))
             | (((with_reducible apply go_fieldAddr_own); rfl; rfl; rfl))
             | (((with_reducible apply go_cmp); rfl; rfl; rfl; rfl))
             | (((with_reducible apply go_st_agg); rfl; rfl; rfl; rfl; rfl; rfl; rfl))
             | (((with_reducible apply go_index_agg); rfl; rfl; rfl; omega; rfl))
             | (((with_reducible apply go_alloc); rfl; rfl; rfl)))
           | ((with_reducible (show evOps _ _ _ _ _ _)); first
             | (with_reducible apply go_nil))
           | ((with_reducible (show evG _ _ _ _ _)); first
             | (with_reducible apply go_seq)
             | (with_reducible apply go_region)
             | ((with_reducible apply go_cond_t); rfl; rfl)
             | (with_reducible apply go_skipc)
             | (with_reducible apply go_block))
           | (with_reducible apply go_kseq)
    refine go_clo_bool (g := 185) (ys := []) (d1 := .sl (l.map encPt)) rfl rfl (fun _ _ => rfl) (c_shapes3 l (by omega)) rfl ?_
    repeat' first
           | (with_reducible apply go_op)
           | (with_reducible apply go_next)
           | ((with_reducible (show evOp _ _ _ _ _ _)); first
             | (((with_reducible apply go_mv_int); rfl; rfl))
             | ((with_reducible apply go_as))
             | (((with_reducible apply go_load_own); rfl; rfl; rfl; rfl))
             | (((with_reducible apply go_fieldAddr_own); rfl; rfl; rfl))
             | (((with_reducible apply go_add); rfl; rfl; rfl; omega)))
           | ((with_reducible (show evOps _ _ _ _ _ _)); first
             | (with_reducible apply go_nil))
           | ((with_reducible (show evG _ _ _ _ _)); first
             | (with_reducible apply go_seq)
             | (with_reducible apply go_region)
             | (((with_reducible apply go_cond); rfl) <;> (intro h; simp only [h]; try simp only [decide_eq_true_eq, decide_eq_false_iff_not, Bool.not_eq_true', Bool.not_eq_false', Bool.not_true, Bool.not_false] at h; try exact absurd trivial h))
             | (with_reducible apply go_ret)
             | (with_reducible apply go_skipc))
           | (with_reducible apply go_kseq)
           | (with_reducible apply go_kseq_ret)
           | (with_reducible apply go_kblock)
           | (with_reducible apply go_kblock_ret)
           | ((with_reducible apply end_int); rfl)
    · unfold polyE; rw [if_neg (by omega), if_neg (by omega), if_pos (by assumption)]
    · refine ⟨by omega, ⟨by omega, by omega, fun _ q hq => ?_, by omega⟩, entails_eq (nx := 0) (k := 0) (ns := []) (ks := [6, 5, 0]) [] rfl (by simp) (by kernel_rfl)⟩
      have := List.any_eq_false.1 ‹(l.any fun p => !ptOK p) = false› q hq
      simpa using this
  · have h3 := hC.1 (by omega)
    have h4 := hC.2.1 (by omega)
    have h5 := hC.2.2.1 (by omega)
    have hn : ¬ (l.any fun p => !ptOK p) = true := by
      simp only [List.any_eq_true, not_exists, not_and]
      intro q hq; rw [h5 q hq]; simp
    repeat' first
           | (with_reducible apply go_op)
           | (with_reducible apply go_next)
           | ((with_reducible (show evOp _ _ _ _ _ _)); first
             | (((with_reducible apply go_mv_sl); rfl; rfl))
             | (((with_reducible apply go_load_own); rfl; rfl; rfl; rfl))
             | (((with_reducible apply go_fieldAddr_own); rfl; rfl; rfl))
             | (((with_reducible apply go_cmp); rfl; rfl; rfl; rfl))
             | (((with_reducible apply go_st_agg); rfl; rfl; rfl; rfl; rfl; rfl; rfl))
             | (((with_reducible apply go_index_agg); rfl; rfl; rfl; omega; rfl))
             | (((with_reducible apply go_alloc); rfl; rfl; rfl)))
           | ((with_reducible (show evOps _ _ _ _ _ _)); first
             | (with_reducible apply go_nil))
           | ((with_reducible (show evG _ _ _ _ _)); first
             | (with_reducible apply go_seq)
             | (with_reducible apply go_region)
             | ((with_reducible apply go_cond_t); rfl; rfl)
             | (with_reducible apply go_skipc)
             | (with_reducible apply go_block))
           | (with_reducible apply go_kseq)
    refine go_clo_bool (g := 186) (ys := []) (d1 := .sl (l.map encPt)) rfl rfl (fun _ _ => rfl) (c_shapes4 l h3 (by omega) h5) rfl ?_
    repeat' first
           | (with_reducible apply go_op)
           | (with_reducible apply go_next)
           | ((with_reducible (show evOp _ _ _ _ _ _)); first
             | (((with_reducible apply go_mv_int); rfl; rfl))
             | ((with_reducible apply go_as))
             | (((with_reducible apply go_load_own); rfl; rfl; rfl; rfl))
             | (((with_reducible apply go_fieldAddr_own); rfl; rfl; rfl))
             | (((with_reducible apply go_add); rfl; rfl; rfl; omega)))
           | ((with_reducible (show evOps _ _ _ _ _ _)); first
             | (with_reducible apply go_nil))
           | ((with_reducible (show evG _ _ _ _ _)); first
             | (with_reducible apply go_seq)
             | (with_reducible apply go_region)
             | (((with_reducible apply go_cond); rfl) <;> (intro h; simp only [h]; try simp only [decide_eq_true_eq, decide_eq_false_iff_not, Bool.not_eq_true', Bool.not_eq_false', Bool.not_true, Bool.not_false] at h; try exact absurd trivial h))
             | (with_reducible apply go_ret)
             | (with_reducible apply go_skipc))
           | (with_reducible apply go_kseq)
           | (with_reducible apply go_kseq_ret)
           | (with_reducible apply go_kblock)
           | (with_reducible apply go_kblock_ret)
           | ((with_reducible apply end_int); rfl)
    all_goals first
      | (unfold polyE; rw [if_neg (by omega), if_neg (by omega), if_neg hn, if_neg (by rw [‹simpleE l = false›]; simp)])
      | (exact ⟨by omega, ⟨by omega, by omega, fun _ => h5, fun _ => by simp_all⟩, entails_eq (nx := 0) (k := 0) (ns := []) (ks := [6, 5, 0]) [] rfl (by simp) (by kernel_rfl)⟩)
      | trace_state
  · have h3 := hC.1 (by omega)
    have h4 := hC.2.1 (by omega)
    have h5 := hC.2.2.1 (by omega)
    have h6 := hC.2.2.2 (by omega)
    have hn : ¬ (l.any fun p => !ptOK p) = true := by
      simp only [List.any_eq_true, not_exists, not_and]
      intro q hq; rw [h5 q hq]; simp
    repeat' first
           | (with_reducible apply go_op)
           | (with_reducible apply go_next)
           | ((with_reducible (show evOp _ _ _ _ _ _)); first
             | (((with_reducible apply go_mv_int); rfl; rfl))
             | ((with_reducible apply go_as))
             | (((with_reducible apply go_cmp); rfl; rfl; rfl; rfl)))
           | ((with_reducible (show evOps _ _ _ _ _ _)); first
             | (with_reducible apply go_nil))
           | ((with_reducible (show evG _ _ _ _ _)); first
             | (with_reducible apply go_seq)
             | (with_reducible apply go_region)
             | ((with_reducible apply go_cond_f); rfl; rfl)
             | (with_reducible apply go_ret)
             | (with_reducible apply go_exit))
           | (with_reducible apply go_kseq)
           | (with_reducible apply go_kblock_exit)
           | (with_reducible apply go_kseq_exit)
           | ((with_reducible apply end_int); rfl)
    all_goals first
      | (unfold polyE; rw [if_neg (by omega), if_neg (by omega), if_neg hn, if_pos h6])
      | trace_state
end Go.Pv.Geo

open Go Go.Proofs Go.Pv
set_option maxHeartbeats 4000000
set_option maxRecDepth 100000
set_option linter.unusedSimpArgs false
set_option linter.unusedVariables false
namespace Go.Pv.Geo
theorem on_first (a b : Pt) : onE a b a = true := by
  rw [onE, decide_eq_true_eq]
  exact ⟨by simp [crossE], by omega, by omega⟩
theorem meet_first (a b d : Pt) : meetE a b a d = true := by simp [meetE, on_first]
theorem simple_dup {l : List Pt} {k i : Nat} (hk : k < i) (hi : i < l.length) (h : l[i] = l[k]) : simpleE l = false := by
  have e1 : cornerP l k = l[k] := cornerP_lt (by omega)
  have e2 : cornerP l i = l[i] := cornerP_lt hi
  by_cases h1 : i = k + 1
  · subst h1
    exact simple_turn (i := k) (by omega) (by simp only [turnBad]; rw [e1, e2, h, ptEq_iff.2 rfl]; simp)
  by_cases h2 : (i + 1) % l.length = k
  · have hn : i + 1 = l.length := by
      rcases Nat.lt_or_ge (i + 1) l.length with hlt | hge
      · rw [Nat.mod_eq_of_lt hlt] at h2; omega
      · omega
    rw [hn, Nat.mod_self] at h2
    subst h2
    have e3 : cornerP l (i + 1) = l[0] := by
      rw [hn, cornerP_get (by omega)]; simp
    exact simple_turn (i := i) hi (by simp only [turnBad]; rw [e2, e3, h, ptEq_iff.2 rfl]; simp)
  · exact simple_pair (i := k) (k := i) (by omega) hi (by omega) (by
      simp only [pairBad, Bool.and_eq_true, decide_eq_true_eq]
      refine ⟨h2, ?_⟩
      rw [e1, e2, h]; exact meet_first _ _ _)
def rturn (l : List Pt) (i : Nat) : Bool := onE (cornerP l i) (cornerP l (i + 1)) (cornerP l (i + 2)) || onE (cornerP l (i + 1)) (cornerP l (i + 2)) (cornerP l i)
theorem rturn_bad {l : List Pt} {i : Nat} (h : rturn l i = true) : turnBad l i = true := by
  simp only [rturn, turnBad, Bool.or_eq_true] at *; rcases h with h | h <;> simp [h]
theorem turn_ok {l : List Pt} {i : Nat} (h3 : 3 ≤ l.length) (hi : i < l.length) (hd : ∀ i (hi : i < l.length), ∀ k (hk : k < i), l[i] ≠ l[k]) (h : rturn l i = false) : turnBad l i = false := by
  simp only [rturn, turnBad, Bool.or_eq_false_iff] at *
  refine ⟨⟨?_, h.1⟩, h.2⟩
  rw [Bool.eq_false_iff]
  intro he
  have he := ptEq_iff.1 he
  rw [cornerP_lt hi, cornerP_get (by omega)] at he
  rcases Nat.lt_or_ge (i + 1) l.length with hlt | hge
  · simp only [Nat.mod_eq_of_lt hlt] at he
    exact hd (i + 1) hlt i (by omega) he.symm
  · have hn : i + 1 = l.length := by omega
    simp only [hn, Nat.mod_self] at he
    exact hd i hi 0 (by omega) he

theorem c_rCheckPolygon (l : List Pt) : Contract Try.prog 117 [.sl (l.map encPt)] (.ret (.int .i64 (polyE l))) := by
  by_cases hb : 3 ≤ l.length ∧ l.length ≤ 40
  rotate_left
  · refine contract_of mix Try.func117 rfl rfl (by rw [Try.ntmps117]; exact Nat.le_of_ble_eq_true rfl) ?_; rw [Try.results117, Try.ntmps117]; simp only [argsE, Nat.reduceAdd]
    repeat' first
           | (with_reducible apply go_op)
           | (with_reducible apply go_next)
           | ((with_reducible (show evOp _ _ _ _ _ _)); first
             | ((with_reducible (show evOp _ (.move _) _ _ _ _)) ; first | ((with_reducible apply go_mv_int); rfl; rfl) | ((with_reducible apply go_mv_sl); rfl; rfl))
             | ((with_reducible apply go_as))
             | (((with_reducible apply go_cmp); rfl; rfl; rfl; rfl))
             | (((with_reducible apply go_len); rfl; rfl)))
           | ((with_reducible (show evOps _ _ _ _ _ _)); first
             | (with_reducible apply go_nil))
           | ((with_reducible (show evG _ _ _ _ _)); first
             | (with_reducible apply go_seq)
             | (with_reducible apply go_region)
             | (((with_reducible apply go_cond); rfl) <;> (intro h; simp only [h]; try simp only [decide_eq_true_eq, decide_eq_false_iff_not, Bool.not_eq_true', Bool.not_eq_false', Bool.not_true, Bool.not_false] at h; try exact absurd trivial h))
             | (with_reducible apply go_ret)
             | (with_reducible apply go_skipc)
             | (with_reducible apply go_block))
           | (with_reducible apply go_kseq)
           | (with_reducible apply go_kseq_ret)
           | ((with_reducible apply end_int); rfl)
    · unfold polyE; rw [if_pos (by omega)]
    · unfold polyE; rw [if_neg (by omega), if_pos (by omega)]
    · exfalso; omega
  have hp4 : ∀ p ∈ l, ptOK p = false → polyE l = 2 := fun p hp ho => by
    unfold polyE; rw [if_neg (by omega), if_neg (by omega), if_pos (List.any_eq_true.2 ⟨p, hp, by rw [ho]; rfl⟩)]
  have hpo : (∀ p ∈ l, ptOK p = true) → polyE l = if simpleE l = true then 0 else 3 := fun h => by
    unfold polyE; rw [if_neg (by omega), if_neg (by omega), if_neg]
    simp only [List.any_eq_true, not_exists, not_and]
    intro q hq; rw [h q hq]; simp
  refine contract_of mix Try.func117 rfl rfl (by rw [Try.ntmps117]; exact Nat.le_of_ble_eq_true rfl) ?_; rw [Try.results117, Try.ntmps117]; simp only [argsE, Nat.reduceAdd]
  repeat' first
           | (with_reducible apply go_op)
           | (with_reducible apply go_next)
           | ((with_reducible (show evOp _ _ _ _ _ _)); first
             | ((with_reducible (show evOp _ (.move _) _ _ _ _)) ; first | ((with_reducible apply go_mv_int); rfl; rfl) | ((with_reducible apply go_mv_sl); rfl; rfl))
             | ((with_reducible apply go_as))
             | (((with_reducible apply go_cmp); rfl; rfl; rfl; rfl))
             | (((with_reducible apply go_len); rfl; rfl)))
           | ((with_reducible (show evOps _ _ _ _ _ _)); first
             | (with_reducible apply go_nil))
           | ((with_reducible (show evG _ _ _ _ _)); first
             | (with_reducible apply go_seq)
             | (with_reducible apply go_region)
             | (((with_reducible apply go_cond); rfl) <;> (intro h; simp only [h]; try simp only [decide_eq_true_eq, decide_eq_false_iff_not, Bool.not_eq_true', Bool.not_eq_false', Bool.not_true, Bool.not_false] at h; try exact absurd trivial h))
             | (with_reducible apply go_ret)
             | (with_reducible apply go_skipc)
             | (with_reducible apply go_block))
           | (with_reducible apply go_kseq)
           | (with_reducible apply go_kseq_ret)
           | ((with_reducible apply end_int); rfl)
  all_goals try (exfalso; omega)
  refine go_count (l.length) (fun i => ⟨[(3, .int .i64 i), (0, .sl (l.map encPt))], [], 0, 102⟩) (fun i => ∀ j (hj : j < i) (hj' : j < l.length), ptOK l[j] = true) (entails_eq (k := 0) (ns := []) (ks := [3, 0]) [] rfl (by simp) rfl) (by omega) ?_
  intro i hi hC
  by_cases h2 : i < l.length
  · have g := c_good l[i]
    cases hp : ptOK l[i]
    · rw [hp] at g
      have e := hp4 _ (List.getElem_mem h2) hp
      repeat' first
           | (with_reducible apply go_op)
           | (with_reducible apply go_next)
           | ((with_reducible (show evOp _ _ _ _ _ _)); first
             | ((with_reducible (show evOp _ (.move _) _ _ _ _)) ; first | ((with_reducible apply go_mv_int); rfl; rfl) | ((with_reducible apply go_mv_sl); rfl; rfl))
             | ((with_reducible apply go_as))
             | (((with_reducible apply go_ld_ptr); rfl; rfl; rfl))
             | (((with_reducible apply go_index_nat); rfl; rfl; (with_reducible rfl); (intro; rfl); rfl; omega; (intro hlt)))
             | (((with_reducible apply go_cmp); rfl; rfl; rfl; rfl))
             | ((with_reducible (show evOp _ (.call _) _ _ _ _)) ; first | ((with_reducible apply go_len); rfl; rfl) | ((with_reducible apply go_fn_bool); rfl; (exact g); rfl))
             | (((with_reducible apply go_not); rfl; rfl)))
           | ((with_reducible (show evOps _ _ _ _ _ _)); first
             | (with_reducible apply go_nil))
           | ((with_reducible (show evG _ _ _ _ _)); first
             | (with_reducible apply go_seq)
             | (with_reducible apply go_region)
             | ((with_reducible apply go_cond_t); rfl; rfl)
             | (((with_reducible apply go_cond); rfl) <;> (intro h; simp only [h]; try simp only [decide_eq_true_eq, decide_eq_false_iff_not, Bool.not_eq_true', Bool.not_eq_false', Bool.not_true, Bool.not_false] at h; try exact absurd trivial h))
             | (with_reducible apply go_ret)
             | (with_reducible apply go_skipc)
             | (with_reducible apply go_block)
             | (with_reducible apply go_exit))
           | (with_reducible apply go_kseq)
           | (with_reducible apply go_kseq_ret)
           | (with_reducible apply go_kblock_ret)
           | (with_reducible apply go_kblock_exit)
           | (with_reducible apply go_kseq_exit)
           | ((with_reducible apply end_int); rfl)
      all_goals first | (exfalso; omega) | exact e.symm
    · rw [hp] at g
      repeat' first
           | (with_reducible apply go_op)
           | (with_reducible apply go_next)
           | ((with_reducible (show evOp _ _ _ _ _ _)); first
             | ((with_reducible (show evOp _ (.move _) _ _ _ _)) ; first | ((with_reducible apply go_mv_int); rfl; rfl) | ((with_reducible apply go_mv_sl); rfl; rfl))
             | ((with_reducible apply go_as))
             | (((with_reducible apply go_ld_ptr); rfl; rfl; rfl))
             | (((with_reducible apply go_index_nat); rfl; rfl; (with_reducible rfl); (intro; rfl); rfl; omega; (intro hlt)))
             | ((with_reducible (show evOp _ (.binOp _ _ _ _ _) _ _ _ _)) ; first | ((with_reducible apply go_cmp); rfl; rfl; rfl; rfl) | ((with_reducible apply go_add); rfl; rfl; rfl; omega))
             | ((with_reducible (show evOp _ (.call _) _ _ _ _)) ; first | ((with_reducible apply go_len); rfl; rfl) | ((with_reducible apply go_fn_bool); rfl; (exact g); rfl))
             | (((with_reducible apply go_not); rfl; rfl)))
           | ((with_reducible (show evOps _ _ _ _ _ _)); first
             | (with_reducible apply go_nil))
           | ((with_reducible (show evG _ _ _ _ _)); first
             | (with_reducible apply go_seq)
             | (with_reducible apply go_region)
             | ((with_reducible apply go_cond_f); rfl; rfl)
             | (((with_reducible apply go_cond); rfl) <;> (intro h; simp only [h]; try simp only [decide_eq_true_eq, decide_eq_false_iff_not, Bool.not_eq_true', Bool.not_eq_false', Bool.not_true, Bool.not_false] at h; try exact absurd trivial h))
             | (with_reducible apply go_skipc)
             | (with_reducible apply go_block)
             | (with_reducible apply go_exit))
           | (with_reducible apply go_kseq)
           | (with_reducible apply go_kblock)
           | (with_reducible apply go_kblock_exit)
           | (with_reducible apply go_kseq_exit)
      all_goals first
        | (exfalso; omega)
        | (refine ⟨h2, fun j hj hj' => ?_, entails_eq (k := 0) (ns := []) (ks := [3, 0]) [] rfl (by simp) rfl⟩
           rcases Nat.lt_succ_iff_lt_or_eq.1 hj with h' | rfl
           · exact hC j h' hj'
           · exact hp)
  have hok : ∀ p ∈ l, ptOK p = true := fun p hp => by
    obtain ⟨j, hj, rfl⟩ := List.mem_iff_getElem.1 hp
    exact hC j (by omega) hj
  have hpe := hpo hok
  have h0 : 0 < l.length := by omega
  clear hpo hp4
  repeat' first
           | (with_reducible apply go_op)
           | (with_reducible apply go_next)
           | ((with_reducible (show evOp _ _ _ _ _ _)); first
             | ((with_reducible (show evOp _ (.move _) _ _ _ _)) ; first | ((with_reducible apply go_mv_int); rfl; rfl) | ((with_reducible apply go_mv_sl); rfl; rfl))
             | ((with_reducible apply go_as))
             | (((with_reducible apply go_ld_ptr); rfl; rfl; rfl))
             | (((with_reducible apply go_index_nat); rfl; rfl; (with_reducible rfl); (intro; rfl); rfl; omega; (intro hlt)))
             | (((with_reducible apply go_cmp); rfl; rfl; rfl; rfl))
             | (((with_reducible apply go_len); rfl; rfl)))
           | ((with_reducible (show evOps _ _ _ _ _ _)); first
             | (with_reducible apply go_nil))
           | ((with_reducible (show evG _ _ _ _ _)); first
             | (with_reducible apply go_seq)
             | (with_reducible apply go_region)
             | (((with_reducible apply go_cond); rfl) <;> (intro h; simp only [h]; try simp only [decide_eq_true_eq, decide_eq_false_iff_not, Bool.not_eq_true', Bool.not_eq_false', Bool.not_true, Bool.not_false] at h; try exact absurd trivial h))
             | (with_reducible apply go_skipc)
             | (with_reducible apply go_block)
             | (with_reducible apply go_exit))
           | (with_reducible apply go_kseq)
           | (with_reducible apply go_kblock_exit)
           | (with_reducible apply go_kseq_exit)
  all_goals try (exfalso; omega)
  refine go_count (l.length) (fun i => ⟨[(5, .int .i64 i), (4, .int .i64 l.length), (0, .sl (l.map encPt))], [], 0, 102⟩) (fun i => ∀ j (hj : j < i) (hj' : j < l.length), ∀ k (hk : k < j), l[j] ≠ l[k]) (entails_eq (k := 0) (ns := []) (ks := [5, 4, 0]) [] rfl (by simp) rfl) (by omega) ?_
  intro i hi hC
  by_cases h2 : i < l.length
  · repeat' first
           | (with_reducible apply go_op)
           | (with_reducible apply go_next)
           | ((with_reducible (show evOp _ _ _ _ _ _)); first
             | (((with_reducible apply go_mv_int); rfl; rfl))
             | ((with_reducible apply go_as))
             | (((with_reducible apply go_cmp); rfl; rfl; rfl; rfl)))
           | ((with_reducible (show evOps _ _ _ _ _ _)); first
             | (with_reducible apply go_nil))
           | ((with_reducible (show evG _ _ _ _ _)); first
             | (with_reducible apply go_seq)
             | (with_reducible apply go_region)
             | (((with_reducible apply go_cond); rfl) <;> (intro h; simp only [h]; try simp only [decide_eq_true_eq, decide_eq_false_iff_not, Bool.not_eq_true', Bool.not_eq_false', Bool.not_true, Bool.not_false] at h; try exact absurd trivial h))
             | (with_reducible apply go_skipc)
             | (with_reducible apply go_block)
             | (with_reducible apply go_exit))
           | (with_reducible apply go_kseq)
           | (with_reducible apply go_kblock_exit)
           | (with_reducible apply go_kseq_exit)
    all_goals try (exfalso; omega)
    refine go_count i (fun k => ⟨[(6, .int .i64 k), (5, .int .i64 i), (4, .int .i64 l.length), (0, .sl (l.map encPt))], [], 0, 102⟩) (fun k => ∀ j (hj : j < k) (hj' : j < i), l[i] ≠ l[j])
      (entails_eq (nx := 0) (k := 0) (ns := []) (ks := [6, 5, 4, 0]) [] rfl (by simp) (by kernel_rfl)) (by omega) ?_
    intro k hk hC2
    by_cases h3 : k < i
    · repeat' first
           | (with_reducible apply go_op)
           | (with_reducible apply go_next)
           | ((with_reducible (show evOp _ _ _ _ _ _)); first
             | ((with_reducible (show evOp _ (.move _) _ _ _ _)) ; first | ((with_reducible apply go_mv_int); rfl; rfl) | ((with_reducible apply go_mv_sl); rfl; rfl))
             | ((with_reducible apply go_as))
             | (((with_reducible apply go_ld_ptr); rfl; rfl; rfl))
             | (((with_reducible apply go_index_nat); rfl; rfl; (with_reducible rfl); (intro; rfl); rfl; omega; (intro hlt)))
             | ((with_reducible (show evOp _ (.binOp _ _ _ _ _) _ _ _ _)) ; first | ((with_reducible apply go_cmp); rfl; rfl; rfl; rfl) | ((with_reducible apply go_add); rfl; rfl; rfl; omega) | ((with_reducible apply go_eql_agg); rfl; rfl; rfl; rfl)))
           | ((with_reducible (show evOps _ _ _ _ _ _)); first
             | (with_reducible apply go_nil)
             | ((with_reducible apply go_pre); rfl)
             | (with_reducible apply go_pre_nil)
             | ((with_reducible apply go_suf); rfl)
             | (with_reducible apply go_suf_nil))
           | ((with_reducible (show evG _ _ _ _ _)); first
             | (with_reducible apply go_seq)
             | (with_reducible apply go_region)
             | (((with_reducible apply go_cond); rfl) <;> (intro h; simp only [h]; try simp only [decide_eq_true_eq, decide_eq_false_iff_not, Bool.not_eq_true', Bool.not_eq_false', Bool.not_true, Bool.not_false] at h; try exact absurd trivial h))
             | ((with_reducible apply go_order); kernel_rfl; rfl)
             | (with_reducible apply go_ret)
             | (with_reducible apply go_skipc)
             | (with_reducible apply go_block)
             | (with_reducible apply go_exit))
           | (with_reducible apply go_kseq)
           | (with_reducible apply go_ksuf)
           | (with_reducible apply go_kseq_ret)
           | (with_reducible apply go_kblock)
           | (with_reducible apply go_kblock_ret)
           | (with_reducible apply go_kblock_exit)
           | (with_reducible apply go_kseq_exit)
           | ((with_reducible apply end_int); rfl)
      all_goals first
        | (exfalso; omega)
        | (have e1 : ptEq l[i] l[k] = true := by assumption
           rw [hpe, simple_dup h3 h2 (ptEq_iff.1 e1)]; rfl)
        | (have e1 : ptEq l[i] l[k] = false := by assumption
           refine ⟨h3, fun j hj hj' => ?_, entails_eq (nx := 0) (k := 0) (ns := []) (ks := [6, 5, 4, 0]) [] rfl (by simp) (by kernel_rfl)⟩
           rcases Nat.lt_succ_iff_lt_or_eq.1 hj with h' | rfl
           · exact hC2 j h' hj'
           · intro he; rw [ptEq_iff.2 he] at e1; cases e1)
        | trace_state
    · repeat' first
           | (with_reducible apply go_op)
           | (with_reducible apply go_next)
           | ((with_reducible (show evOp _ _ _ _ _ _)); first
             | ((with_reducible (show evOp _ (.move _) _ _ _ _)) ; first | ((with_reducible apply go_mv_int); rfl; rfl) | ((with_reducible apply go_mv_sl); rfl; rfl))
             | ((with_reducible apply go_as))
             | (((with_reducible apply go_ld_ptr); rfl; rfl; rfl))
             | (((with_reducible apply go_index_nat); rfl; rfl; (with_reducible rfl); (intro; rfl); rfl; omega; (intro hlt)))
             | ((with_reducible (show evOp _ (.binOp _ _ _ _ _) _ _ _ _)) ; first | ((with_reducible apply go_cmp); rfl; rfl; rfl; rfl) | ((with_reducible apply go_add); rfl; rfl; rfl; omega) | ((with_reducible apply go_eql_agg); rfl; rfl; rfl; rfl)))
           | ((with_reducible (show evOps _ _ _ _ _ _)); first
             | (with_reducible apply go_nil)
             | ((with_reducible apply go_pre); rfl)
             | (with_reducible apply go_pre_nil)
             | ((with_reducible apply go_suf); rfl)
             | (with_reducible apply go_suf_nil))
           | ((with_reducible (show evG _ _ _ _ _)); first
             | (with_reducible apply go_seq)
             | (with_reducible apply go_region)
             | (((with_reducible apply go_cond); rfl) <;> (intro h; simp only [h]; try simp only [decide_eq_true_eq, decide_eq_false_iff_not, Bool.not_eq_true', Bool.not_eq_false', Bool.not_true, Bool.not_false] at h; try exact absurd trivial h))
             | ((with_reducible apply go_order); kernel_rfl; rfl)
             | (with_reducible apply go_ret)
             | (with_reducible apply go_skipc)
             | (with_reducible apply go_block)
             | (with_reducible apply go_exit))
           | (with_reducible apply go_kseq)
           | (with_reducible apply go_ksuf)
           | (with_reducible apply go_kseq_ret)
           | (with_reducible apply go_kblock)
           | (with_reducible apply go_kblock_ret)
           | (with_reducible apply go_kblock_exit)
           | (with_reducible apply go_kseq_exit)
           | ((with_reducible apply end_int); rfl)
      all_goals first
        | (exfalso; omega)
        | (refine ⟨h2, fun j hj hj' => ?_, entails_eq (k := 0) (ns := []) (ks := [5, 4, 0]) [] rfl (by simp) rfl⟩
           rcases Nat.lt_succ_iff_lt_or_eq.1 hj with h' | rfl
           · exact hC j h' hj'
           · exact fun k' hk' => hC2 k' (by omega) hk')
        | trace_state
  have hd : ∀ i (hi : i < l.length), ∀ k (hk : k < i), l[i] ≠ l[k] := fun i' hi' => hC i' (by omega) hi'
  repeat' first
           | (with_reducible apply go_op)
           | (with_reducible apply go_next)
           | ((with_reducible (show evOp _ _ _ _ _ _)); first
             | (((with_reducible apply go_mv_int); rfl; rfl))
             | ((with_reducible apply go_as))
             | (((with_reducible apply go_cmp); rfl; rfl; rfl; rfl)))
           | ((with_reducible (show evOps _ _ _ _ _ _)); first
             | (with_reducible apply go_nil))
           | ((with_reducible (show evG _ _ _ _ _)); first
             | (with_reducible apply go_seq)
             | (with_reducible apply go_region)
             | (((with_reducible apply go_cond); rfl) <;> (intro h; simp only [h]; try simp only [decide_eq_true_eq, decide_eq_false_iff_not, Bool.not_eq_true', Bool.not_eq_false', Bool.not_true, Bool.not_false] at h; try exact absurd trivial h))
             | (with_reducible apply go_skipc)
             | (with_reducible apply go_block)
             | (with_reducible apply go_exit))
           | (with_reducible apply go_kseq)
           | (with_reducible apply go_kblock_exit)
           | (with_reducible apply go_kseq_exit)
  all_goals try (exfalso; omega)
  refine go_count (l.length) (fun i => ⟨[(7, .int .i64 i), (4, .int .i64 l.length), (0, .sl (l.map encPt))], [], 0, 102⟩) (fun i => ∀ j, j < i → rturn l j = false ∧ ∀ k, k < l.length → j + 2 ≤ k → pairBad l j k = false) (entails_eq (k := 0) (ns := []) (ks := [7, 4, 0]) [] rfl (by simp) rfl) (by omega) ?_
  intro i hi hC
  by_cases h2 : i < l.length
  rotate_left
  · repeat' first
           | (with_reducible apply go_op)
           | (with_reducible apply go_next)
           | ((with_reducible (show evOp _ _ _ _ _ _)); first
             | ((with_reducible (show evOp _ (.move _) _ _ _ _)) ; first | ((with_reducible apply go_mv_int); rfl; rfl) | ((with_reducible apply go_mv_sl); rfl; rfl))
             | ((with_reducible apply go_as))
             | (((with_reducible apply go_cmp); rfl; rfl; rfl; rfl)))
           | ((with_reducible (show evOps _ _ _ _ _ _)); first
             | (with_reducible apply go_nil))
           | ((with_reducible (show evG _ _ _ _ _)); first
             | (with_reducible apply go_seq)
             | (with_reducible apply go_region)
             | (((with_reducible apply go_cond); rfl) <;> (intro h; simp only [h]; try simp only [decide_eq_true_eq, decide_eq_false_iff_not, Bool.not_eq_true', Bool.not_eq_false', Bool.not_true, Bool.not_false] at h; try exact absurd trivial h))
             | (with_reducible apply go_ret)
             | (with_reducible apply go_skipc)
             | (with_reducible apply go_block)
             | (with_reducible apply go_exit))
           | (with_reducible apply go_kseq)
           | (with_reducible apply go_kblock_exit)
           | (with_reducible apply go_kseq_exit)
           | ((with_reducible apply end_int); rfl)
    all_goals first
      | (exfalso; omega)
      | (rw [hpe, simple_yes (fun j hj => turn_ok hb.1 hj hd (hC j (by omega)).1) fun j hj k hk hjk => (hC j (by omega)).2 k hk hjk]; rfl)
      | trace_state
  have o0 := hok _ (cornerP_mem h0 i)
  have o1 := hok _ (cornerP_mem h0 (i + 1))
  have o2 := hok _ (cornerP_mem h0 (i + 2))
  have k0 := c_rcorner l h0 (by omega) i
  have k1 : Contract Try.prog 159 [.sl (l.map encPt), .int .i64 ((i : Int) + 1)] (.ret (.agg (encPt (cornerP l (i + 1))))) := c_rcorner l h0 (by omega) (i + 1)
  have k2 : Contract Try.prog 159 [.sl (l.map encPt), .int .i64 ((i : Int) + 2)] (.ret (.agg (encPt (cornerP l (i + 2))))) := c_rcorner l h0 (by omega) (i + 2)
  have n1 := c_rbetween (cornerP l i) (cornerP l (i + 1)) (cornerP l (i + 2)) o0 o1 o2
  have n2 := c_rbetween (cornerP l (i + 1)) (cornerP l (i + 2)) (cornerP l i) o1 o2 o0
  have hst := fun h => simple_turn (l := l) h2 (rturn_bad h)
  have hbad : rturn l i = (onE (cornerP l i) (cornerP l (i + 1)) (cornerP l (i + 2)) || onE (cornerP l (i + 1)) (cornerP l (i + 2)) (cornerP l i)) := rfl
  rw [hbad] at hst
  generalize ha : cornerP l i = a at *
  generalize hb' : cornerP l (i + 1) = b at *
  generalize hc : cornerP l (i + 2) = c at *
  have hCi : ∀ j, j < i → rturn l j = false ∧ ∀ k, k < l.length → j + 2 ≤ k → pairBad l j k = false := hC
  repeat' first
           | (with_reducible apply go_op)
           | (with_reducible apply go_next)
           | ((with_reducible (show evOp _ _ _ _ _ _)); first
             | ((with_reducible (show evOp _ (.move _) _ _ _ _)) ; first | ((with_reducible apply go_mv_int); rfl; rfl) | ((with_reducible apply go_mv_bool); rfl; rfl) | ((with_reducible apply go_mv_sl); rfl; rfl))
             | ((with_reducible apply go_as))
             | (((with_reducible apply go_ld_agg); rfl; rfl; rfl; rfl))
             | ((with_reducible (show evOp _ (.binOp _ _ _ _ _) _ _ _ _)) ; first | ((with_reducible apply go_cmp); rfl; rfl; rfl; rfl) | ((with_reducible apply go_add); rfl; rfl; rfl; omega))
             | ((with_reducible (show evOp _ (.call _) _ _ _ _)) ; first | ((with_reducible apply go_fn_plain); rfl; (exact k0); rfl; (exact Nat.le_of_ble_eq_true rfl); rfl) | ((with_reducible apply go_fn_plain); rfl; (exact k1); rfl; (exact Nat.le_of_ble_eq_true rfl); rfl) | ((with_reducible apply go_fn_plain); rfl; (exact k2); rfl; (exact Nat.le_of_ble_eq_true rfl); rfl) | ((with_reducible apply go_fn_bool); rfl; (exact n1); rfl) | ((with_reducible apply go_fn_bool); rfl; (exact n2); rfl))
             | (((with_reducible apply go_st_agg); rfl; rfl; rfl; rfl; rfl; rfl; rfl))
             | (((with_reducible apply go_pick); rfl; rfl; rfl))
             | (((with_reducible apply go_alloc); rfl; rfl; rfl)))
           | ((with_reducible (show evOps _ _ _ _ _ _)); first
             | (with_reducible apply go_nil)
             | ((with_reducible apply go_run); rfl; rfl)
             | ((with_reducible apply go_pass); rfl; rfl; rfl)
             | (((with_reducible apply go_guard); rfl) <;> (intro h; simp only [h, Bool.not_true, Bool.not_false]; (try with_reducible (refine ⟨rfl, ?_⟩)); try simp only [decide_eq_true_eq, decide_eq_false_iff_not, Bool.not_eq_true', Bool.not_eq_false', Bool.not_true, Bool.not_false] at h; try exact absurd trivial h)))
           | ((with_reducible (show evG _ _ _ _ _)); first
             | (with_reducible apply go_seq)
             | (with_reducible apply go_region)
             | ((with_reducible apply go_cond_t); rfl; rfl)
             | (((with_reducible apply go_cond); rfl) <;> (intro h; simp only [h]; try simp only [decide_eq_true_eq, decide_eq_false_iff_not, Bool.not_eq_true', Bool.not_eq_false', Bool.not_true, Bool.not_false] at h; try exact absurd trivial h))
             | (with_reducible apply go_ret)
             | (with_reducible apply go_skipc)
             | (with_reducible apply go_block)
             | (with_reducible apply go_exit))
           | (with_reducible apply go_kseq)
           | (with_reducible apply go_kseq_ret)
           | (with_reducible apply go_kblock_ret)
           | (with_reducible apply go_kblock_exit)
           | (with_reducible apply go_kseq_exit)
           | ((with_reducible apply end_int); rfl)
  all_goals try (exfalso; omega)
  · rw [hpe, hst (by simp [*])]; rfl
  · have hb0 : rturn l i = false := by rw [hbad]; simp [*]
    refine go_count l.length (fun j => ⟨[(11, .int .i64 ((i + 2 + j : Nat) : Int)), (7, .int .i64 i), (4, .int .i64 l.length), (8, .op 0 0 0), (9, .op 1 0 0), (0, .sl (l.map encPt))], [(0, ⟨2, true, [encPt a]⟩), (1, ⟨2, true, [encPt b]⟩)], 32, 102⟩) (fun j => ∀ k, k < l.length → i + 2 ≤ k → k < i + 2 + j → pairBad l i k = false)
      (entails_eq (nx := 32) (k := 0) (ns := []) (ks := [11, 7, 4, 8, 9, 0]) [(448, 0), (480, 1)] rfl (by simp) (by kernel_rfl)) (by omega) ?_
    intro j hj hC2
    by_cases h5 : i + 2 + j < l.length
    · have q0 := hok _ (cornerP_mem h0 (i + 2 + j))
      have q1 := hok _ (cornerP_mem h0 (i + 2 + j + 1))
      have k3 := c_rcorner l h0 (by omega) (i + 2 + j)
      have k4 : Contract Try.prog 159 [.sl (l.map encPt), .int .i64 (((i + 2 + j : Nat) : Int) + 1)] (.ret (.agg (encPt (cornerP l (i + 2 + j + 1))))) := c_rcorner l h0 (by omega) (i + 2 + j + 1)
      have mt := c_rmeet a b (cornerP l (i + 2 + j)) (cornerP l (i + 2 + j + 1)) o0 o1 q0 q1
      have hpb : pairBad l i (i + 2 + j) = (decide ((i + 2 + j + 1) % l.length ≠ i) && meetE a b (cornerP l (i + 2 + j)) (cornerP l (i + 2 + j + 1))) := by rw [pairBad, ha, hb']
      have hsp := fun h => simple_pair (l := l) h2 h5 (by omega) h
      rw [hpb] at hsp
      have hmod : (((i + 2 + j : Nat) : Int) + 1) % (l.length : Int) = (((i + 2 + j + 1) % l.length : Nat) : Int) := by
        rw [Int.natCast_emod]; rfl
      generalize cornerP l (i + 2 + j + 1) = d at *
      generalize cornerP l (i + 2 + j) = e at *
      generalize hk : i + 2 + j = k at *
      repeat' first
           | (with_reducible apply go_op)
           | (with_reducible apply go_next)
           | ((with_reducible (show evOp _ _ _ _ _ _)); first
             | ((with_reducible (show evOp _ (.move _) _ _ _ _)) ; first | ((with_reducible apply go_mv_int); rfl; rfl) | ((with_reducible apply go_mv_bool); rfl; rfl) | ((with_reducible apply go_mv_sl); rfl; rfl))
             | ((with_reducible apply go_as))
             | (((with_reducible apply go_ld_agg); rfl; rfl; rfl; rfl))
             | ((with_reducible (show evOp _ (.binOp _ _ _ _ _) _ _ _ _)) ; first | ((with_reducible apply go_cmp); rfl; rfl; rfl; rfl) | ((with_reducible apply go_add); rfl; rfl; rfl; omega) | ((with_reducible apply go_rem_pos); rfl; rfl; rfl; omega))
             | ((with_reducible (show evOp _ (.call _) _ _ _ _)) ; first | ((with_reducible apply go_fn_plain); rfl; (exact k3); rfl; (exact Nat.le_of_ble_eq_true rfl); rfl) | ((with_reducible apply go_fn_plain); rfl; (exact k4); rfl; (exact Nat.le_of_ble_eq_true rfl); rfl) | ((with_reducible apply go_fn_bool); rfl; (exact mt); rfl))
             | (((with_reducible apply go_pick); rfl; rfl; rfl)))
           | ((with_reducible (show evOps _ _ _ _ _ _)); first
             | (with_reducible apply go_nil)
             | ((with_reducible apply go_run); rfl; rfl)
             | ((with_reducible apply go_pass); rfl; rfl; rfl)
             | (((with_reducible apply go_guard); rfl) <;> (intro h; simp only [h, Bool.not_true, Bool.not_false]; (try with_reducible (refine ⟨rfl, ?_⟩)); try simp only [decide_eq_true_eq, decide_eq_false_iff_not, Bool.not_eq_true', Bool.not_eq_false', Bool.not_true, Bool.not_false] at h; try exact absurd trivial h))
             | ((with_reducible apply go_pre); rfl)
             | (with_reducible apply go_pre_nil)
             | ((with_reducible apply go_suf); rfl)
             | (with_reducible apply go_suf_nil))
           | ((with_reducible (show evG _ _ _ _ _)); first
             | (with_reducible apply go_seq)
             | (with_reducible apply go_region)
             | ((with_reducible apply go_cond_f); rfl; rfl)
             | (((with_reducible apply go_cond); rfl) <;> (intro h; simp only [h]; try simp only [decide_eq_true_eq, decide_eq_false_iff_not, Bool.not_eq_true', Bool.not_eq_false', Bool.not_true, Bool.not_false] at h; try exact absurd trivial h))
             | ((with_reducible apply go_order); kernel_rfl; rfl)
             | (with_reducible apply go_ret)
             | (with_reducible apply go_skipc)
             | (with_reducible apply go_block)
             | (with_reducible apply go_exit))
           | (with_reducible apply go_kseq)
           | (with_reducible apply go_ksuf)
           | (with_reducible apply go_kseq_ret)
           | (with_reducible apply go_kblock)
           | (with_reducible apply go_kblock_ret)
           | (with_reducible apply go_kblock_exit)
           | (with_reducible apply go_kseq_exit)
           | ((with_reducible apply end_int); rfl)
      all_goals first
        | (exfalso; omega)
        | (rw [hpe, hsp ?_]; rfl
           simp only [Bool.and_eq_true, decide_eq_true_eq]
           exact ⟨by omega, by assumption⟩)
        | (refine ⟨by omega, fun k' hk' hk2 hk3 => ?_, ?_⟩
           · by_cases hlast : k' < k
             · exact hC2 k' hk' hk2 (by omega)
             · have : k' = k := by omega
               subst this
               rw [hpb]
               by_cases hm2 : (k' + 1) % l.length = i
               · simp only [hm2, ne_eq, not_true_eq_false, decide_false, Bool.false_and]
               · have : meetE a b e d = false := by first | assumption | (exfalso; omega)
                 rw [this, Bool.and_false]
           · rw [show i + 2 + (j + 1) = k + 1 by omega]
             exact entails_eq (nx := 32) (k := 0) (ns := []) (ks := [11, 7, 4, 8, 9, 0]) [(0, 0), (1, 1)] rfl (by simp) (by kernel_rfl))
        | trace_state
    · repeat' first
           | (with_reducible apply go_op)
           | (with_reducible apply go_next)
           | ((with_reducible (show evOp _ _ _ _ _ _)); first
             | ((with_reducible (show evOp _ (.move _) _ _ _ _)) ; first | ((with_reducible apply go_mv_int); rfl; rfl) | ((with_reducible apply go_mv_bool); rfl; rfl) | ((with_reducible apply go_mv_sl); rfl; rfl))
             | ((with_reducible apply go_as))
             | (((with_reducible apply go_ld_agg); rfl; rfl; rfl; rfl))
             | ((with_reducible (show evOp _ (.binOp _ _ _ _ _) _ _ _ _)) ; first | ((with_reducible apply go_cmp); rfl; rfl; rfl; rfl) | ((with_reducible apply go_add); rfl; rfl; rfl; omega) | ((with_reducible apply go_rem_pos); rfl; rfl; rfl; omega))
             | (((with_reducible apply go_pick); rfl; rfl; rfl)))
           | ((with_reducible (show evOps _ _ _ _ _ _)); first
             | (with_reducible apply go_nil)
             | ((with_reducible apply go_run); rfl; rfl)
             | ((with_reducible apply go_pass); rfl; rfl; rfl)
             | (((with_reducible apply go_guard); rfl) <;> (intro h; simp only [h, Bool.not_true, Bool.not_false]; (try with_reducible (refine ⟨rfl, ?_⟩)); try simp only [decide_eq_true_eq, decide_eq_false_iff_not, Bool.not_eq_true', Bool.not_eq_false', Bool.not_true, Bool.not_false] at h; try exact absurd trivial h))
             | ((with_reducible apply go_pre); rfl)
             | (with_reducible apply go_pre_nil)
             | ((with_reducible apply go_suf); rfl)
             | (with_reducible apply go_suf_nil))
           | ((with_reducible (show evG _ _ _ _ _)); first
             | (with_reducible apply go_seq)
             | (with_reducible apply go_region)
             | ((with_reducible apply go_cond_f); rfl; rfl)
             | (((with_reducible apply go_cond); rfl) <;> (intro h; simp only [h]; try simp only [decide_eq_true_eq, decide_eq_false_iff_not, Bool.not_eq_true', Bool.not_eq_false', Bool.not_true, Bool.not_false] at h; try exact absurd trivial h))
             | ((with_reducible apply go_order); kernel_rfl; rfl)
             | (with_reducible apply go_skipc)
             | (with_reducible apply go_block)
             | (with_reducible apply go_exit))
           | (with_reducible apply go_kseq)
           | (with_reducible apply go_ksuf)
           | (with_reducible apply go_kblock)
           | (with_reducible apply go_kblock_exit)
           | (with_reducible apply go_kseq_exit)
      all_goals first
        | (exfalso; omega)
        | (refine ⟨h2, fun j' hj' => ?_, entails_eq (k := 0) (ns := []) (ks := [7, 4, 0]) [] rfl (by simp) rfl⟩
           rcases Nat.lt_succ_iff_lt_or_eq.1 hj' with h' | rfl
           · exact hCi j' h'
           · exact ⟨hb0, fun k hk hik => hC2 k hk hik (by omega)⟩)
        | trace_state
  · rw [hpe, hst (by simp [*])]; rfl
end Go.Pv.Geo

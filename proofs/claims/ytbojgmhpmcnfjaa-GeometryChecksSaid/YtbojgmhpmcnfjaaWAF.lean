import Derived.Test.YtbojgmhpmcnfjaaProg
import Derived.Test.YtbojgmhpmcnfjaaWAE
import Derived.Test.YtbojgmhpmcnfjaaWAD
import Derived.KernelRfl
/- Part of the proofs over Ytbojgmhpmcnfjaa: H10, H11, H12, H13, H14, H16, JD, JE, JF, JG. -/
set_option linter.unusedVariables false
set_option linter.unusedSimpArgs false
set_option linter.unnecessarySimpa false
open Go Go.Proofs Go.Pv
set_option maxHeartbeats 4000000
set_option maxRecDepth 100000
set_option linter.unusedSimpArgs false
set_option linter.unusedVariables false
namespace Go.Pv.Geo
theorem cellsPt : Try.prog.cellsOf 23 = 2 := by kernel_rfl
/-- The corner with a number, counted on from the first one. -/
def cornerP (l : List Pt) (i : Nat) : Pt := l.getD (i % l.length) ⟨0, 0⟩
theorem cornerP_get {l : List Pt} (h : 0 < l.length) (i : Nat) : cornerP l i = l[i % l.length]'(Nat.mod_lt _ h) := by
  simp [cornerP, List.getD_eq_getElem?_getD, Nat.mod_lt _ h]
theorem cornerP_mem {l : List Pt} (h : 0 < l.length) (i : Nat) : cornerP l i ∈ l := by
  rw [cornerP_get h]; exact List.getElem_mem _
theorem cornerP_lt {l : List Pt} {i : Nat} (h : i < l.length) : cornerP l i = l[i] := by
  rw [cornerP_get (by omega)]; simp only [Nat.mod_eq_of_lt h]
theorem c_corner (l : List Pt) (h0 : 0 < l.length) (hl : l.length < 1000000000000) (i : Nat) : Contract Try.prog 89 [.sl (l.map encPt), .int .i64 i] (.ret (.agg (encPt (cornerP l i)))) := by
  have hm := Nat.mod_lt i h0
  have e : ((i : Int) % (l.length : Int)) = ((i % l.length : Nat) : Int) := by simp
  have hlt' : 0 ≤ (i : Int) % (l.length : Int) ∧ (i : Int) % (l.length : Int) < l.length := by rw [e]; omega
  have e2 : ((i : Int) % (l.length : Int)).toNat = i % l.length := by rw [e]; rfl
  rw [cornerP_get h0]
  refine contract_of mix Try.func89 rfl rfl (by rw [Try.ntmps89]; exact Nat.le_of_ble_eq_true rfl) ?_; rw [Try.results89, Try.ntmps89]; simp only [argsE, Nat.reduceAdd]
  repeat' first
           | (with_reducible apply go_op)
           | (with_reducible apply go_next)
           | ((with_reducible (show evOp _ _ _ _ _ _)); first
             | ((with_reducible (show evOp _ (.move _) _ _ _ _)) ; first | ((with_reducible apply go_mv_int); rfl; rfl) | ((with_reducible apply go_mv_sl); rfl; rfl))
             | (((with_reducible apply go_ld_ptr); rfl; rfl; rfl))
             | (((with_reducible apply go_index); rfl; rfl; (intro; rfl); rfl; omega; intro hlt))
             | (((with_reducible apply go_rem_pos); rfl; rfl; rfl; omega))
             | (((with_reducible apply go_len); rfl; rfl))
             | (((with_reducible apply go_st_agg); rfl; rfl; rfl; rfl; rfl; rfl; rfl))
             | (((with_reducible apply go_alloc); rfl; rfl; rfl)))
           | ((with_reducible (show evOps _ _ _ _ _ _)); first
             | (with_reducible apply go_nil))
           | ((with_reducible (show evG _ _ _ _ _)); first
             | (with_reducible apply go_seq)
             | (with_reducible apply go_region)
             | (with_reducible apply go_ret))
           | (with_reducible apply go_kseq)
           | ((with_reducible apply end_agg); rfl; rfl)
  all_goals (rw [cellsPt]; simp only [e2]; rfl)
theorem c_rcorner (l : List Pt) (h0 : 0 < l.length) (hl : l.length < 1000000000000) (i : Nat) : Contract Try.prog 90 [.sl (l.map encPt), .int .i64 i] (.ret (.agg (encPt (cornerP l i)))) := by
  have hm := Nat.mod_lt i h0
  have e : ((i : Int) % (l.length : Int)) = ((i % l.length : Nat) : Int) := by simp
  have hlt' : 0 ≤ (i : Int) % (l.length : Int) ∧ (i : Int) % (l.length : Int) < l.length := by rw [e]; omega
  have e2 : ((i : Int) % (l.length : Int)).toNat = i % l.length := by rw [e]; rfl
  rw [cornerP_get h0]
  refine contract_of mix Try.func90 rfl rfl (by rw [Try.ntmps90]; exact Nat.le_of_ble_eq_true rfl) ?_; rw [Try.results90, Try.ntmps90]; simp only [argsE, Nat.reduceAdd]
  repeat' first
           | (with_reducible apply go_op)
           | (with_reducible apply go_next)
           | ((with_reducible (show evOp _ _ _ _ _ _)); first
             | ((with_reducible (show evOp _ (.move _) _ _ _ _)) ; first | ((with_reducible apply go_mv_int); rfl; rfl) | ((with_reducible apply go_mv_sl); rfl; rfl))
             | (((with_reducible apply go_ld_ptr); rfl; rfl; rfl))
             | (((with_reducible apply go_index); rfl; rfl; (intro; rfl); rfl; omega; intro hlt))
             | (((with_reducible apply go_rem_pos); rfl; rfl; rfl; omega))
             | (((with_reducible apply go_len); rfl; rfl))
             | (((with_reducible apply go_st_agg); rfl; rfl; rfl; rfl; rfl; rfl; rfl))
             | (((with_reducible apply go_alloc); rfl; rfl; rfl)))
           | ((with_reducible (show evOps _ _ _ _ _ _)); first
             | (with_reducible apply go_nil))
           | ((with_reducible (show evG _ _ _ _ _)); first
             | (with_reducible apply go_seq)
             | (with_reducible apply go_region)
             | (with_reducible apply go_ret))
           | (with_reducible apply go_kseq)
           | ((with_reducible apply end_agg); rfl; rfl)
  all_goals (rw [cellsPt]; simp only [e2]; rfl)
/-- A corner at which a polygon is not simple; a pair of edges that meet. -/
def ptEq (a b : Pt) : Bool := decide (a.x = b.x) && (decide (a.y = b.y) && true)
theorem ptEq_iff {a b : Pt} : ptEq a b = true ↔ a = b := by
  cases a; cases b; simp [ptEq]
def turnBad (l : List Pt) (i : Nat) : Bool := ptEq (cornerP l i) (cornerP l (i + 1)) || onE (cornerP l i) (cornerP l (i + 1)) (cornerP l (i + 2)) || onE (cornerP l (i + 1)) (cornerP l (i + 2)) (cornerP l i)
def pairBad (l : List Pt) (i k : Nat) : Bool := decide ((k + 1) % l.length ≠ i) && meetE (cornerP l i) (cornerP l (i + 1)) (cornerP l k) (cornerP l (k + 1))
def simpleE (l : List Pt) : Bool := (List.range l.length).all fun i => !turnBad l i && (List.range l.length).all fun k => !(decide (i + 2 ≤ k) && pairBad l i k)
theorem simple_turn {l : List Pt} {i : Nat} (hi : i < l.length) (h : turnBad l i = true) : simpleE l = false := by
  rw [simpleE, List.all_eq_false]
  exact ⟨i, List.mem_range.2 hi, by simp [h]⟩
theorem simple_pair {l : List Pt} {i k : Nat} (hi : i < l.length) (hk : k < l.length) (hik : i + 2 ≤ k) (h : pairBad l i k = true) : simpleE l = false := by
  rw [simpleE, List.all_eq_false]
  refine ⟨i, List.mem_range.2 hi, ?_⟩
  have : ((List.range l.length).all fun k => !(decide (i + 2 ≤ k) && pairBad l i k)) = false := by
    rw [List.all_eq_false]
    exact ⟨k, List.mem_range.2 hk, by simp [h, hik]⟩
  rw [this, Bool.and_false]; simp
theorem simple_yes {l : List Pt} (h1 : ∀ i, i < l.length → turnBad l i = false) (h2 : ∀ i, i < l.length → ∀ k, k < l.length → i + 2 ≤ k → pairBad l i k = false) : simpleE l = true := by
  rw [simpleE, List.all_eq_true]
  intro i hi
  rw [h1 i (List.mem_range.1 hi), Bool.not_false, Bool.true_and, List.all_eq_true]
  intro k hk
  by_cases hik : i + 2 ≤ k
  · rw [h2 i (List.mem_range.1 hi) k (List.mem_range.1 hk) hik, Bool.and_false]; rfl
  · simp [hik]

theorem c_simple (l : List Pt) (h3 : 3 ≤ l.length) (hl : l.length < 1000000000) (hok : ∀ q ∈ l, ptOK q = true) : Contract Try.prog 121 [.sl (l.map encPt)] (.ret (.bool (simpleE l))) := by
  refine contract_of mix Try.func121 rfl rfl (by rw [Try.ntmps121]; exact Nat.le_of_ble_eq_true rfl) ?_; rw [Try.results121, Try.ntmps121]; simp only [argsE, Nat.reduceAdd]
  repeat' first
           | (with_reducible apply go_op)
           | (with_reducible apply go_next)
           | ((with_reducible (show evOp _ _ _ _ _ _)); first
             | ((with_reducible (show evOp _ (.move _) _ _ _ _)) ; first | ((with_reducible apply go_mv_int); rfl; rfl) | ((with_reducible apply go_mv_bool); rfl; rfl) | ((with_reducible apply go_mv_sl); rfl; rfl))
             | ((with_reducible apply go_as))
             | (((with_reducible apply go_len); rfl; rfl)))
           | ((with_reducible (show evOps _ _ _ _ _ _)); first
             | (with_reducible apply go_nil))
           | ((with_reducible (show evG _ _ _ _ _)); first
             | (with_reducible apply go_seq)
             | (with_reducible apply go_region)
             | (with_reducible apply go_block))
           | (with_reducible apply go_kseq)
  refine go_count l.length (fun i => ⟨[(12, .int .i64 i), (11, .int .i64 l.length), (3, .int .i64 l.length), (0, .sl (l.map encPt))], [], 0, 69⟩) (fun i => ∀ j, j < i → turnBad l j = false ∧ ∀ k, k < l.length → j + 2 ≤ k → pairBad l j k = false)
    (entails_eq (nx := 0) (k := 0) (ns := []) (ks := [12, 11, 3, 0]) [] rfl (by simp) (by kernel_rfl)) (by omega) ?_
  intro i hi hC
  by_cases h2 : i < l.length
  · have h0 : 0 < l.length := by omega
    have ec := cornerP_lt h2
    have o0 : ptOK l[i] = true := hok _ (List.getElem_mem h2)
    have o1 := hok _ (cornerP_mem h0 (i + 1))
    have o2 := hok _ (cornerP_mem h0 (i + 2))
    have k1 : Contract Try.prog 89 [.sl (l.map encPt), .int .i64 ((i : Int) + 1)] (.ret (.agg (encPt (cornerP l (i + 1))))) := c_corner l h0 (by omega) (i + 1)
    have k2 : Contract Try.prog 89 [.sl (l.map encPt), .int .i64 ((i : Int) + 2)] (.ret (.agg (encPt (cornerP l (i + 2))))) := c_corner l h0 (by omega) (i + 2)
    have n1 := c_on l[i] (cornerP l (i + 1)) (cornerP l (i + 2)) o0 o1 o2
    have n2 := c_on (cornerP l (i + 1)) (cornerP l (i + 2)) l[i] o1 o2 o0
    have hbad : turnBad l i = (ptEq l[i] (cornerP l (i + 1)) || onE l[i] (cornerP l (i + 1)) (cornerP l (i + 2)) || onE (cornerP l (i + 1)) (cornerP l (i + 2)) l[i]) := by rw [turnBad, ec]
    have hst := fun h => simple_turn (l := l) h2 h
    rw [hbad] at hst
    generalize hb : cornerP l (i + 1) = b at *
    generalize hc : cornerP l (i + 2) = c at *
    have hCi : ∀ j, j < i → turnBad l j = false ∧ ∀ k, k < l.length → j + 2 ≤ k → pairBad l j k = false := hC
    repeat' first
           | (with_reducible apply go_op)
           | (with_reducible apply go_next)
           | ((with_reducible (show evOp _ _ _ _ _ _)); first
             | ((with_reducible (show evOp _ (.move _) _ _ _ _)) ; first | ((with_reducible apply go_mv_int); rfl; rfl) | ((with_reducible apply go_mv_bool); rfl; rfl) | ((with_reducible apply go_mv_sl); rfl; rfl))
             | ((with_reducible apply go_as))
             | ((with_reducible (show evOp _ (.load _ _) _ _ _ _)) ; first | ((with_reducible apply go_ld_ptr); rfl; rfl; rfl) | ((with_reducible apply go_ld_agg); rfl; rfl; rfl; rfl))
             | (((with_reducible apply go_index_nat); rfl; rfl; (with_reducible rfl); (intro; rfl); rfl; omega; (intro hlt)))
             | ((with_reducible (show evOp _ (.binOp _ _ _ _ _) _ _ _ _)) ; first | ((with_reducible apply go_cmp); rfl; rfl; rfl; rfl) | ((with_reducible apply go_add); rfl; rfl; rfl; omega) | ((with_reducible apply go_eql_agg); rfl; rfl; rfl; rfl))
             | ((with_reducible (show evOp _ (.call _) _ _ _ _)) ; first | ((with_reducible apply go_fn_plain); rfl; (exact k1); rfl; (exact Nat.le_of_ble_eq_true rfl); rfl) | ((with_reducible apply go_fn_plain); rfl; (exact k2); rfl; (exact Nat.le_of_ble_eq_true rfl); rfl) | ((with_reducible apply go_fn_bool); rfl; (exact n1); rfl) | ((with_reducible apply go_fn_bool); rfl; (exact n2); rfl))
             | (((with_reducible apply go_st_agg); rfl; rfl; rfl; rfl; rfl; rfl; rfl))
             | (((with_reducible apply go_pick); rfl; rfl; rfl))
             | (((with_reducible apply go_alloc); rfl; rfl; rfl)))
           | ((with_reducible (show evOps _ _ _ _ _ _)); first
             | (with_reducible apply go_nil)
             | ((with_reducible apply go_run); rfl; rfl)
             | ((with_reducible apply go_pass); rfl; rfl; rfl)
             | (((with_reducible apply go_guard); rfl) <;> (intro h; simp only [h, Bool.not_true, Bool.not_false]; (try with_reducible (refine ⟨rfl, ?_⟩)); try simp only [decide_eq_true_eq, decide_eq_false_iff_not, Bool.not_eq_true', Bool.not_eq_false', Bool.not_true, Bool.not_false] at h; try exact absurd trivial h))
             | ((with_reducible apply go_pre); rfl)
             | ((with_reducible apply go_pre_stop); rfl)
             | ((with_reducible apply go_suf); rfl)
             | ((with_reducible apply go_suf_stop); rfl))
           | ((with_reducible (show evG _ _ _ _ _)); first
             | (with_reducible apply go_seq)
             | (with_reducible apply go_region)
             | ((with_reducible apply go_cond_t); rfl; rfl)
             | (((with_reducible apply go_cond); rfl) <;> (intro h; simp only [h]; try simp only [decide_eq_true_eq, decide_eq_false_iff_not, Bool.not_eq_true', Bool.not_eq_false', Bool.not_true, Bool.not_false] at h; try exact absurd trivial h))
             | ((with_reducible apply go_order); kernel_rfl; rfl)
             | (with_reducible apply go_ret)
             | (with_reducible apply go_skipc)
             | (with_reducible apply go_block)
             | (with_reducible apply go_exit))
           | (with_reducible apply go_kseq)
           | (with_reducible apply go_ksuf)
           | (with_reducible apply go_kseq_ret)
           | (with_reducible apply go_kblock_ret)
           | (with_reducible apply go_kblock_exit)
           | (with_reducible apply go_kseq_exit)
           | ((with_reducible apply end_bool); rfl)
    all_goals try (exfalso; omega)
    · exact (hst (by simp [*])).symm
    · have hb0 : turnBad l i = false := by
        have e1 : ptEq l[i] b = false := ‹(decide (l[i].x = b.x) && (decide (l[i].y = b.y) && true)) = false›
        rw [hbad]; simp [*]
      refine go_count l.length (fun j => ⟨[(8, .int .i64 ((i + 2 + j : Nat) : Int)), (12, .int .i64 i), (11, .int .i64 l.length), (4, .int .i64 i), (3, .int .i64 l.length), (5, .op 0 0 0), (6, .op 1 0 0), (0, .sl (l.map encPt))], [(0, ⟨2, true, [encPt l[i]]⟩), (1, ⟨2, true, [encPt b]⟩)], 32, 69⟩) (fun j => ∀ k, k < l.length → i + 2 ≤ k → k < i + 2 + j → pairBad l i k = false)
        (entails_eq (nx := 32) (k := 0) (ns := []) (ks := [8, 12, 11, 4, 3, 5, 6, 0]) [(480, 0), (512, 1)] rfl (by simp) (by kernel_rfl)) (by omega) ?_
      intro j hj hC2
      by_cases h5 : i + 2 + j < l.length
      · have ek := cornerP_lt h5
        have q0 : ptOK (l[i + 2 + j]) = true := hok _ (List.getElem_mem h5)
        have q1 := hok _ (cornerP_mem h0 (i + 2 + j + 1))
        have k3 : Contract Try.prog 89 [.sl (l.map encPt), .int .i64 (((i + 2 + j : Nat) : Int) + 1)] (.ret (.agg (encPt (cornerP l (i + 2 + j + 1))))) := c_corner l h0 (by omega) (i + 2 + j + 1)
        have mt := c_meet l[i] b l[i + 2 + j] (cornerP l (i + 2 + j + 1)) o0 o1 q0 q1
        have hpb : pairBad l i (i + 2 + j) = (decide ((i + 2 + j + 1) % l.length ≠ i) && meetE l[i] b l[i + 2 + j] (cornerP l (i + 2 + j + 1))) := by rw [pairBad, ec, ek, hb]
        have hsp := fun h => simple_pair (l := l) h2 h5 (by omega) h
        rw [hpb] at hsp
        have hmod : (((i + 2 + j : Nat) : Int) + 1) % (l.length : Int) = (((i + 2 + j + 1) % l.length : Nat) : Int) := by
          rw [Int.natCast_emod]; rfl
        generalize cornerP l (i + 2 + j + 1) = d at *
        generalize hk : i + 2 + j = k at *
        repeat' first
           | (with_reducible apply go_op)
           | (with_reducible apply go_next)
           | ((with_reducible (show evOp _ _ _ _ _ _)); first
             | ((with_reducible (show evOp _ (.move _) _ _ _ _)) ; first | ((with_reducible apply go_mv_int); rfl; rfl) | ((with_reducible apply go_mv_bool); rfl; rfl) | ((with_reducible apply go_mv_sl); rfl; rfl))
             | ((with_reducible apply go_as))
             | ((with_reducible (show evOp _ (.load _ _) _ _ _ _)) ; first | ((with_reducible apply go_ld_ptr); rfl; rfl; rfl) | ((with_reducible apply go_ld_agg); rfl; rfl; rfl; rfl))
             | (((with_reducible apply go_index_nat); rfl; rfl; (with_reducible rfl); (intro; rfl); rfl; omega; (intro hlt)))
             | ((with_reducible (show evOp _ (.binOp _ _ _ _ _) _ _ _ _)) ; first | ((with_reducible apply go_cmp); rfl; rfl; rfl; rfl) | ((with_reducible apply go_add); rfl; rfl; rfl; omega) | ((with_reducible apply go_rem_pos); rfl; rfl; rfl; omega))
             | ((with_reducible (show evOp _ (.call _) _ _ _ _)) ; first | ((with_reducible apply go_fn_plain); rfl; (exact k3); rfl; (exact Nat.le_of_ble_eq_true rfl); rfl) | ((with_reducible apply go_fn_bool); rfl; (exact mt); rfl))
             | (((with_reducible apply go_pick); rfl; rfl; rfl)))
           | ((with_reducible (show evOps _ _ _ _ _ _)); first
             | (with_reducible apply go_nil)
             | ((with_reducible apply go_run); rfl; rfl)
             | ((with_reducible apply go_pass); rfl; rfl; rfl)
             | (((with_reducible apply go_guard); rfl) <;> (intro h; simp only [h, Bool.not_true, Bool.not_false]; (try with_reducible (refine ⟨rfl, ?_⟩)); try simp only [decide_eq_true_eq, decide_eq_false_iff_not, Bool.not_eq_true', Bool.not_eq_false', Bool.not_true, Bool.not_false] at h; try exact absurd trivial h))
             | ((with_reducible apply go_pre); rfl)
             | (with_reducible apply go_pre_nil)
             | ((with_reducible apply go_suf); rfl)
             | (with_reducible apply go_suf_nil))
           | ((with_reducible (show evG _ _ _ _ _)); first
             | (with_reducible apply go_seq)
             | (with_reducible apply go_region)
             | ((with_reducible apply go_cond_f); rfl; rfl)
             | (((with_reducible apply go_cond); rfl) <;> (intro h; simp only [h]; try simp only [decide_eq_true_eq, decide_eq_false_iff_not, Bool.not_eq_true', Bool.not_eq_false', Bool.not_true, Bool.not_false] at h; try exact absurd trivial h))
             | ((with_reducible apply go_order); kernel_rfl; rfl)
             | (with_reducible apply go_ret)
             | (with_reducible apply go_skipc)
             | (with_reducible apply go_block)
             | (with_reducible apply go_exit))
           | (with_reducible apply go_kseq)
           | (with_reducible apply go_ksuf)
           | (with_reducible apply go_kseq_ret)
           | (with_reducible apply go_kblock)
           | (with_reducible apply go_kblock_ret)
           | (with_reducible apply go_kblock_exit)
           | (with_reducible apply go_kseq_exit)
           | ((with_reducible apply end_bool); rfl)
        all_goals first
          | (exfalso; omega)
          | (refine (hsp ?_).symm
             simp only [Bool.and_eq_true, decide_eq_true_eq]
             exact ⟨by omega, by assumption⟩)
          | (refine ⟨by omega, fun k' hk' hk2 hk3 => ?_, ?_⟩
             · by_cases hlast : k' < k
               · exact hC2 k' hk' hk2 (by omega)
               · have : k' = k := by omega
                 subst this
                 rw [hpb]
                 by_cases hm2 : (k' + 1) % l.length = i
                 · simp only [hm2, ne_eq, not_true_eq_false, decide_false, Bool.false_and]
                 · have : meetE l[i] b l[k'] d = false := by first | assumption | (exfalso; omega)
                   rw [this, Bool.and_false]
             · rw [show i + 2 + (j + 1) = k + 1 by omega]
               exact entails_eq (nx := 32) (k := 0) (ns := []) (ks := [8, 12, 11, 4, 3, 5, 6, 0]) [(0, 0), (1, 1)] rfl (by simp) (by kernel_rfl))
          | trace_state
      · repeat' first
           | (with_reducible apply go_op)
           | (with_reducible apply go_next)
           | ((with_reducible (show evOp _ _ _ _ _ _)); first
             | ((with_reducible (show evOp _ (.move _) _ _ _ _)) ; first | ((with_reducible apply go_mv_int); rfl; rfl) | ((with_reducible apply go_mv_bool); rfl; rfl) | ((with_reducible apply go_mv_sl); rfl; rfl))
             | ((with_reducible apply go_as))
             | ((with_reducible (show evOp _ (.load _ _) _ _ _ _)) ; first | ((with_reducible apply go_ld_ptr); rfl; rfl; rfl) | ((with_reducible apply go_ld_agg); rfl; rfl; rfl; rfl))
             | (((with_reducible apply go_index_nat); rfl; rfl; (with_reducible rfl); (intro; rfl); rfl; omega; (intro hlt)))
             | ((with_reducible (show evOp _ (.binOp _ _ _ _ _) _ _ _ _)) ; first | ((with_reducible apply go_cmp); rfl; rfl; rfl; rfl) | ((with_reducible apply go_add); rfl; rfl; rfl; omega) | ((with_reducible apply go_rem_pos); rfl; rfl; rfl; omega))
             | (((with_reducible apply go_pick); rfl; rfl; rfl)))
           | ((with_reducible (show evOps _ _ _ _ _ _)); first
             | (with_reducible apply go_nil)
             | ((with_reducible apply go_run); rfl; rfl)
             | ((with_reducible apply go_pass); rfl; rfl; rfl)
             | (((with_reducible apply go_guard); rfl) <;> (intro h; simp only [h, Bool.not_true, Bool.not_false]; (try with_reducible (refine ⟨rfl, ?_⟩)); try simp only [decide_eq_true_eq, decide_eq_false_iff_not, Bool.not_eq_true', Bool.not_eq_false', Bool.not_true, Bool.not_false] at h; try exact absurd trivial h))
             | ((with_reducible apply go_pre); rfl)
             | (with_reducible apply go_pre_nil)
             | ((with_reducible apply go_suf); rfl)
             | (with_reducible apply go_suf_nil))
           | ((with_reducible (show evG _ _ _ _ _)); first
             | (with_reducible apply go_seq)
             | (with_reducible apply go_region)
             | ((with_reducible apply go_cond_f); rfl; rfl)
             | (((with_reducible apply go_cond); rfl) <;> (intro h; simp only [h]; try simp only [decide_eq_true_eq, decide_eq_false_iff_not, Bool.not_eq_true', Bool.not_eq_false', Bool.not_true, Bool.not_false] at h; try exact absurd trivial h))
             | ((with_reducible apply go_order); kernel_rfl; rfl)
             | (with_reducible apply go_skipc)
             | (with_reducible apply go_block)
             | (with_reducible apply go_exit))
           | (with_reducible apply go_kseq)
           | (with_reducible apply go_ksuf)
           | (with_reducible apply go_kblock)
           | (with_reducible apply go_kblock_exit)
           | (with_reducible apply go_kseq_exit)
        all_goals first
          | (exfalso; omega)
          | (refine ⟨h2, fun j' hj' => ?_, entails_eq (nx := 0) (k := 0) (ns := []) (ks := [12, 11, 3, 0]) [] rfl (by simp) (by kernel_rfl)⟩
             rcases Nat.lt_succ_iff_lt_or_eq.1 hj' with h' | rfl
             · exact hCi j' h'
             · exact ⟨hb0, fun k hk hik => hC2 k hk hik (by omega)⟩)
          | trace_state
    · exact (hst (by simp [*])).symm
    · have e1 : ptEq l[i] b = true := ‹(decide (l[i].x = b.x) && (decide (l[i].y = b.y) && true)) = true›
      exact (hst (by simp [*])).symm
  · repeat' first
           | (with_reducible apply go_op)
           | (with_reducible apply go_next)
           | ((with_reducible (show evOp _ _ _ _ _ _)); first
             | ((with_reducible (show evOp _ (.move _) _ _ _ _)) ; first | ((with_reducible apply go_mv_int); rfl; rfl) | ((with_reducible apply go_mv_bool); rfl; rfl) | ((with_reducible apply go_mv_sl); rfl; rfl))
             | ((with_reducible apply go_as))
             | (((with_reducible apply go_ld_ptr); rfl; rfl; rfl))
             | (((with_reducible apply go_index_nat); rfl; rfl; (with_reducible rfl); (intro; rfl); rfl; omega; (intro hlt)))
             | ((with_reducible (show evOp _ (.binOp _ _ _ _ _) _ _ _ _)) ; first | ((with_reducible apply go_cmp); rfl; rfl; rfl; rfl) | ((with_reducible apply go_add); rfl; rfl; rfl; omega)))
           | ((with_reducible (show evOps _ _ _ _ _ _)); first
             | (with_reducible apply go_nil)
             | ((with_reducible apply go_pre); rfl))
           | ((with_reducible (show evG _ _ _ _ _)); first
             | (with_reducible apply go_seq)
             | (with_reducible apply go_region)
             | (((with_reducible apply go_cond); rfl) <;> (intro h; simp only [h]; try simp only [decide_eq_true_eq, decide_eq_false_iff_not, Bool.not_eq_true', Bool.not_eq_false', Bool.not_true, Bool.not_false] at h; try exact absurd trivial h))
             | ((with_reducible apply go_order); kernel_rfl; rfl)
             | (with_reducible apply go_ret)
             | (with_reducible apply go_skipc)
             | (with_reducible apply go_block)
             | (with_reducible apply go_exit))
           | (with_reducible apply go_kseq)
           | (with_reducible apply go_kblock_exit)
           | (with_reducible apply go_kseq_exit)
           | ((with_reducible apply end_bool); rfl)
    all_goals first
      | (exfalso; omega)
      | exact (simple_yes (fun j hj => (hC j (by omega)).1) fun j hj k hk hjk => (hC j (by omega)).2 k hk hjk).symm
      | trace_state
end Go.Pv.Geo

open Go Go.Proofs Go.Pv
set_option maxHeartbeats 4000000
set_option maxRecDepth 100000
set_option linter.unusedSimpArgs false
set_option linter.unusedVariables false
namespace Go.Pv.Geo
def shapesD : List D := [.int .i64 10, .clo (.func 117) [] [], .int .i64 8, .clo (.func 118) [] [], .int .i64 2, .clo (.func 119) [] [], .int .i64 3, .clo (.func 120) [] []]
theorem c_shapes : Contract Try.prog 91 [] (.ret (.agg shapesD)) := by
  refine contract_of mix Try.func91 rfl rfl (by rw [Try.ntmps91]; exact Nat.le_of_ble_eq_true rfl) ?_; rw [Try.results91, Try.ntmps91]; simp only [argsE, Nat.reduceAdd]
  repeat' first
           | (with_reducible apply go_op)
           | (with_reducible apply go_next)
           | ((with_reducible (show evOp _ _ _ _ _ _)); first
             | (((with_reducible apply go_st_agg); rfl; rfl; rfl; rfl; rfl; rfl; rfl))
             | (((with_reducible apply go_build); rfl; rfl))
             | (((with_reducible apply go_alloc); rfl; rfl; rfl)))
           | ((with_reducible (show evOps _ _ _ _ _ _)); first
             | (with_reducible apply go_nil))
           | ((with_reducible (show evG _ _ _ _ _)); first
             | (with_reducible apply go_seq)
             | (with_reducible apply go_region)
             | (with_reducible apply go_ret))
           | (with_reducible apply go_kseq)
           | ((with_reducible apply end_ret); apply fin1; rfl; rfl; rfl)
  all_goals kernel_rfl
theorem c_shapes1 (l : List Pt) : Contract Try.prog 117 [.sl (l.map encPt)] (.ret (.bool (decide (l.length < 3)))) := by
  refine contract_of mix Try.func117 rfl rfl (by rw [Try.ntmps117]; exact Nat.le_of_ble_eq_true rfl) ?_; rw [Try.results117, Try.ntmps117]; simp only [argsE, Nat.reduceAdd]
  repeat' first
           | (with_reducible apply go_op)
           | (with_reducible apply go_next)
           | ((with_reducible (show evOp _ _ _ _ _ _)); first
             | ((with_reducible (show evOp _ (.move _) _ _ _ _)) ; first | ((with_reducible apply go_mv_bool); rfl; rfl) | ((with_reducible apply go_mv_sl); rfl; rfl))
             | ((with_reducible apply go_as))
             | (((with_reducible apply go_cmp); rfl; rfl; rfl; rfl))
             | (((with_reducible apply go_len); rfl; rfl)))
           | ((with_reducible (show evOps _ _ _ _ _ _)); first
             | (with_reducible apply go_nil))
           | ((with_reducible (show evG _ _ _ _ _)); first
             | (with_reducible apply go_seq)
             | (with_reducible apply go_region)
             | (with_reducible apply go_ret))
           | (with_reducible apply go_kseq)
           | ((with_reducible apply end_bool); rfl)
  all_goals (exact decide_eq_decide.2 (by omega))
theorem c_shapes2 (l : List Pt) : Contract Try.prog 118 [.sl (l.map encPt)] (.ret (.bool (decide (40 < l.length)))) := by
  refine contract_of mix Try.func118 rfl rfl (by rw [Try.ntmps118]; exact Nat.le_of_ble_eq_true rfl) ?_; rw [Try.results118, Try.ntmps118]; simp only [argsE, Nat.reduceAdd]
  repeat' first
           | (with_reducible apply go_op)
           | (with_reducible apply go_next)
           | ((with_reducible (show evOp _ _ _ _ _ _)); first
             | ((with_reducible (show evOp _ (.move _) _ _ _ _)) ; first | ((with_reducible apply go_mv_bool); rfl; rfl) | ((with_reducible apply go_mv_sl); rfl; rfl))
             | ((with_reducible apply go_as))
             | (((with_reducible apply go_cmp); rfl; rfl; rfl; rfl))
             | (((with_reducible apply go_len); rfl; rfl)))
           | ((with_reducible (show evOps _ _ _ _ _ _)); first
             | (with_reducible apply go_nil))
           | ((with_reducible (show evG _ _ _ _ _)); first
             | (with_reducible apply go_seq)
             | (with_reducible apply go_region)
             | (with_reducible apply go_ret))
           | (with_reducible apply go_kseq)
           | ((with_reducible apply end_bool); rfl)
  all_goals (exact decide_eq_decide.2 (by omega))
theorem c_shapes3 (l : List Pt) (hl : l.length < 1000000000000) : Contract Try.prog 119 [.sl (l.map encPt)] (.ret (.bool (l.any fun p => !ptOK p))) := by
  refine contract_of mix Try.func119 rfl rfl (by rw [Try.ntmps119]; exact Nat.le_of_ble_eq_true rfl) ?_; rw [Try.results119, Try.ntmps119]; simp only [argsE, Nat.reduceAdd]
  repeat' first
           | (with_reducible apply go_op)
           | (with_reducible apply go_next)
           | ((with_reducible (show evOp _ _ _ _ _ _)); first
             | ((with_reducible (show evOp _ (.move _) _ _ _ _)) ; first | ((with_reducible apply go_mv_bool); rfl; rfl) | ((with_reducible apply go_mv_sl); rfl; rfl))
             | ((with_reducible apply go_as))
             | (((with_reducible apply go_fn_bool); rfl; (exact c_outside l hl); rfl)))
           | ((with_reducible (show evOps _ _ _ _ _ _)); first
             | (with_reducible apply go_nil))
           | ((with_reducible (show evG _ _ _ _ _)); first
             | (with_reducible apply go_seq)
             | (with_reducible apply go_region)
             | (with_reducible apply go_ret))
           | (with_reducible apply go_kseq)
           | ((with_reducible apply end_bool); rfl)
           | (with_reducible rfl)
theorem c_shapes4 (l : List Pt) (h3 : 3 ≤ l.length) (hl : l.length < 1000000000) (hok : ∀ q ∈ l, ptOK q = true) : Contract Try.prog 120 [.sl (l.map encPt)] (.ret (.bool (!simpleE l))) := by
  refine contract_of mix Try.func120 rfl rfl (by rw [Try.ntmps120]; exact Nat.le_of_ble_eq_true rfl) ?_; rw [Try.results120, Try.ntmps120]; simp only [argsE, Nat.reduceAdd]
  repeat' first
           | (with_reducible apply go_op)
           | (with_reducible apply go_next)
           | ((with_reducible (show evOp _ _ _ _ _ _)); first
             | ((with_reducible (show evOp _ (.move _) _ _ _ _)) ; first | ((with_reducible apply go_mv_bool); rfl; rfl) | ((with_reducible apply go_mv_sl); rfl; rfl))
             | ((with_reducible apply go_as))
             | (((with_reducible apply go_fn_bool); rfl; (exact c_simple l h3 hl hok); rfl))
             | (((with_reducible apply go_not); rfl; rfl)))
           | ((with_reducible (show evOps _ _ _ _ _ _)); first
             | (with_reducible apply go_nil))
           | ((with_reducible (show evG _ _ _ _ _)); first
             | (with_reducible apply go_seq)
             | (with_reducible apply go_region)
             | (with_reducible apply go_ret))
           | (with_reducible apply go_kseq)
           | ((with_reducible apply end_bool); rfl)
           | (with_reducible rfl)
/-- The error of a polygon. -/
def polyE (l : List Pt) : Int := if l.length < 3 then 10 else if 40 < l.length then 8 else if (l.any fun p => !ptOK p) = true then 2 else if simpleE l = true then 0 else 3
theorem poly_ok {l : List Pt} (h : polyE l = 0) : (3 ≤ l.length ∧ l.length ≤ 40) ∧ (∀ p ∈ l, ptOK p = true) ∧ simpleE l = true := by
  unfold polyE at h
  (repeat' split at h) <;> first | (cases h; done) | skip
  rename_i h1 h2 h3 h4
  refine ⟨by omega, fun p hp => ?_, h4⟩
  simp only [List.any_eq_true, not_exists, not_and] at h3
  simpa using h3 p hp
theorem c_CheckPolygon (l : List Pt) : Contract Try.prog 46 [.sl (l.map encPt)] (.ret (.int .i64 (polyE l))) := by
  have s1 := c_shapes1 l
  have s2 := c_shapes2 l
  refine contract_of mix Try.func46 rfl rfl (by rw [Try.ntmps46]; exact Nat.le_of_ble_eq_true rfl) ?_; rw [Try.results46, Try.ntmps46]; simp only [argsE, Nat.reduceAdd]
  repeat' first
           | (with_reducible apply go_op)
           | (with_reducible apply go_next)
           | ((with_reducible (show evOp _ _ _ _ _ _)); first
             | (((with_reducible apply go_mv_int); rfl; rfl))
             | ((with_reducible apply go_as)))
           | ((with_reducible (show evOps _ _ _ _ _ _)); first
             | (with_reducible apply go_nil))
           | ((with_reducible (show evG _ _ _ _ _)); first
             | (with_reducible apply go_seq)
             | (with_reducible apply go_region))
           | (with_reducible apply go_kseq)
  refine go_call_fn (args := []) (args' := []) rfl c_shapes rfl (Nat.le_of_ble_eq_true rfl) rfl ?_
  repeat' first
           | (with_reducible apply go_op)
           | (with_reducible apply go_next)
           | ((with_reducible (show evOp _ _ _ _ _ _)); first
             | (((with_reducible apply go_mv_int); rfl; rfl)))
           | ((with_reducible (show evOps _ _ _ _ _ _)); first
             | (with_reducible apply go_nil))
           | ((with_reducible (show evG _ _ _ _ _)); first
             | (with_reducible apply go_block))
           | (with_reducible apply go_kseq)
  refine go_count 4 (fun i => ⟨[(6, .int .i64 i), (5, .agg shapesD), (0, .sl (l.map encPt))], [], 0, 16⟩) (fun i => (1 ≤ i → 3 ≤ l.length) ∧ (2 ≤ i → l.length ≤ 40) ∧ (3 ≤ i → ∀ q ∈ l, ptOK q = true) ∧ (4 ≤ i → simpleE l = true))
    (entails_eq (nx := 0) (k := 0) (ns := []) (ks := [6, 5, 0]) [] rfl (by simp) (by kernel_rfl)) ⟨by omega, by omega, by omega, by omega⟩ ?_
  intro i hi hC
  have hc4 : i = 0 ∨ i = 1 ∨ i = 2 ∨ i = 3 ∨ i = 4 := by omega
  rcases hc4 with rfl | rfl | rfl | rfl | rfl
  · repeat' first
           | (with_reducible apply go_op)
           | (with_reducible apply go_next)
           | ((with_reducible (show evOp _ _ _ _ _ _)); first
             | (((with_reducible apply go_mv_sl); rfl; rfl))
             | (((with_reducible apply go_load_own); rfl; rfl; rfl; rfl))
             | (((with_reducible apply go_fieldAddr_own); rfl; rfl; rfl))
             | (((with_reducible apply go_cmp); rfl; rfl; rfl; rfl))
             | (((with_reducible apply go_st_agg); rfl; rfl; rfl; rfl; rfl; rfl; rfl))
             | (((with_reducible apply go_index_agg); rfl; rfl; rfl; omega; rfl))
             | (((with_reducible apply go_alloc); rfl; rfl; rfl)))
           | ((with_reducible (show evOps _ _ _ _ _ _)); first
             | (with_reducible apply go_nil))
           | ((with_reducible (show evG _ _ _ _ _)); first
             | (with_reducible apply go_seq)
             | (with_reducible apply go_region)
             | ((with_reducible apply go_cond_t); rfl; rfl)
             | (with_reducible apply go_skipc)
             | (with_reducible apply go_block))
           | (with_reducible apply go_kseq)
    refine go_clo_bool (g := 117) (ys := []) (d1 := .sl (l.map encPt)) rfl rfl (fun _ _ => rfl) s1 rfl ?_
    repeat' first
           | (with_reducible apply go_op)
           | (with_reducible apply go_next)
           | ((with_reducible (show evOp _ _ _ _ _ _)); first
             | (((with_reducible apply go_mv_int); rfl; rfl))
             | ((with_reducible apply go_as))
             | (((with_reducible apply go_load_own); rfl; rfl; rfl; rfl))
             | (((with_reducible apply go_fieldAddr_own); rfl; rfl; rfl))
             | (((with_reducible apply go_add); rfl; rfl; rfl; omega)))
           | ((with_reducible (show evOps _ _ _ _ _ _)); first
             | (with_reducible apply go_nil))
           | ((with_reducible (show evG _ _ _ _ _)); first
             | (with_reducible apply go_seq)
             | (with_reducible apply go_region)
             | (((with_reducible apply go_cond); rfl) <;> (intro h; simp only [h]; try simp only [decide_eq_true_eq, decide_eq_false_iff_not, Bool.not_eq_true', Bool.not_eq_false', Bool.not_true, Bool.not_false] at h; try exact absurd trivial h))
             | (with_reducible apply go_ret)
             | (with_reducible apply go_skipc))
           | (with_reducible apply go_kseq)
           | (with_reducible apply go_kseq_ret)
           | (with_reducible apply go_kblock)
           | (with_reducible apply go_kblock_ret)
           | ((with_reducible apply end_int); rfl)
    · unfold polyE; rw [if_pos (by omega)]
    · exact ⟨by omega, ⟨by omega, by omega, by omega, by omega⟩, entails_eq (nx := 0) (k := 0) (ns := []) (ks := [6, 5, 0]) [] rfl (by simp) (by kernel_rfl)⟩
  · have h3 := hC.1 (by omega)
    repeat' first
           | (with_reducible apply go_op)
           | (with_reducible apply go_next)
           | ((with_reducible (show evOp _ _ _ _ _ _)); first
             | (((with_reducible apply go_mv_sl); rfl; rfl))
             | (((with_reducible apply go_load_own); rfl; rfl; rfl; rfl))
             | (((with_reducible apply go_fieldAddr_own); rfl; rfl; rfl))
             | (((with_reducible apply go_cmp); rfl; rfl; rfl; rfl))
             | (((with_reducible apply go_st_agg); rfl; rfl; rfl; rfl; rfl; rfl; rfl))
             | (((with_reducible apply go_index_agg); rfl; rfl; rfl; omega; rfl))
             | (((with_reducible apply go_alloc); rfl; rfl; rfl)))
           | ((with_reducible (show evOps _ _ _ _ _ _)); first
             | (with_reducible apply go_nil))
           | ((with_reducible (show evG _ _ _ _ _)); first
             | (with_reducible apply go_seq)
             | (with_reducible apply go_region)
             | ((with_reducible apply go_cond_t); rfl; rfl)
             | (with_reducible apply go_skipc)
             | (with_reducible apply go_block))
           | (with_reducible apply go_kseq)
    refine go_clo_bool (g := 118) (ys := []) (d1 := .sl (l.map encPt)) rfl rfl (fun _ _ => rfl) s2 rfl ?_
    repeat' first
           | (with_reducible apply go_op)
           | (with_reducible apply go_next)
           | ((with_reducible (show evOp _ _ _ _ _ _)); first
             | (((with_reducible apply go_mv_int); rfl; rfl))
             | ((with_reducible apply go_as))
             | (((with_reducible apply go_load_own); rfl; rfl; rfl; rfl))
             | (((with_reducible apply go_fieldAddr_own); rfl; rfl; rfl))
             | (((with_reducible apply go_add); rfl; rfl; rfl; omega)))
           | ((with_reducible (show evOps _ _ _ _ _ _)); first
             | (with_reducible apply go_nil))
           | ((with_reducible (show evG _ _ _ _ _)); first
             | (with_reducible apply go_seq)
             | (with_reducible apply go_region)
             | (((with_reducible apply go_cond); rfl) <;> (intro h; simp only [h]; try simp only [decide_eq_true_eq, decide_eq_false_iff_not, Bool.not_eq_true', Bool.not_eq_false', Bool.not_true, Bool.not_false] at h; try exact absurd trivial h))
             | (with_reducible apply go_ret)
             | (with_reducible apply go_skipc))
           | (with_reducible apply go_kseq)
           | (with_reducible apply go_kseq_ret)
           | (with_reducible apply go_kblock)
           | (with_reducible apply go_kblock_ret)
           | ((with_reducible apply end_int); rfl)
    · unfold polyE; rw [if_neg (by omega), if_pos (by omega)]
    · exact ⟨by omega, ⟨by omega, by omega, by omega, by omega⟩, entails_eq (nx := 0) (k := 0) (ns := []) (ks := [6, 5, 0]) [] rfl (by simp) (by kernel_rfl)⟩
  · have h3 := hC.1 (by omega)
    have h4 := hC.2.1 (by omega)
    repeat' first
           | (with_reducible apply go_op)
           | (with_reducible apply go_next)
           | ((with_reducible (show evOp _ _ _ _ _ _)); first
             | (((with_reducible apply go_mv_sl); rfl; rfl))
             | (((with_reducible apply go_load_own); rfl; rfl; rfl; rfl))
             | (((with_reducible apply go_fieldAddr_own); rfl; rfl; rfl))
             | (((with_reducible apply go_cmp); rfl; rfl; rfl; rfl))
             | (((with_reducible apply go_st_agg); rfl; rfl; rfl; rfl; rfl; rfl; rfl))
             | (((with_reducible apply go_index_agg); rfl; rfl; rfl; omega; rfl))
             | (((with_reducible apply go_alloc); rfl; rfl; rfl)))
           | ((with_reducible (show evOps _ _ _ _ _ _)); first
             | (with_reducible apply go_nil))
           | ((with_reducible (show evG _ _ _ _ _)); first
             | (with_reducible apply go_seq)
             | (with_reducible apply go_region)
             | ((with_reducible apply go_cond_t); rfl; rfl)
             | (with_reducible apply go_skipc)
             | (with_reducible apply go_block))
           | (with_reducible apply go_kseq)
    refine go_clo_bool (g := 119) (ys := []) (d1 := .sl (l.map encPt)) rfl rfl (fun _ _ => rfl) (c_shapes3 l (by omega)) rfl ?_
    repeat' first
           | (with_reducible apply go_op)
           | (with_reducible apply go_next)
           | ((with_reducible (show evOp _ _ _ _ _ _)); first
             | (((with_reducible apply go_mv_int); rfl; rfl))
             | ((with_reducible apply go_as))
             | (((with_reducible apply go_load_own); rfl; rfl; rfl; rfl))
             | (((with_reducible apply go_fieldAddr_own); rfl; rfl; rfl))
             | (((with_reducible apply go_add); rfl; rfl; rfl; omega)))
           | ((with_reducible (show evOps _ _ _ _ _ _)); first
             | (with_reducible apply go_nil))
           | ((with_reducible (show evG _ _ _ _ _)); first
             | (with_reducible apply go_seq)
             | (with_reducible apply go_region)
             | (((with_reducible apply go_cond); rfl) <;> (intro h; simp only [h]; try simp only [decide_eq_true_eq, decide_eq_false_iff_not, Bool.not_eq_true', Bool.not_eq_false', Bool.not_true, Bool.not_false] at h; try exact absurd trivial h))
             | (with_reducible apply go_ret)
             | (with_reducible apply go_skipc))
           | (with_reducible apply go_kseq)
           | (with_reducible apply go_kseq_ret)
           | (with_reducible apply go_kblock)
           | (with_reducible apply go_kblock_ret)
           | ((with_reducible apply end_int); rfl)
    · unfold polyE; rw [if_neg (by omega), if_neg (by omega), if_pos (by assumption)]
    · refine ⟨by omega, ⟨by omega, by omega, fun _ q hq => ?_, by omega⟩, entails_eq (nx := 0) (k := 0) (ns := []) (ks := [6, 5, 0]) [] rfl (by simp) (by kernel_rfl)⟩
      have := List.any_eq_false.1 ‹(l.any fun p => !ptOK p) = false› q hq
      simpa using this
  · have h3 := hC.1 (by omega)
    have h4 := hC.2.1 (by omega)
    have h5 := hC.2.2.1 (by omega)
    have hn : ¬ (l.any fun p => !ptOK p) = true := by
      simp only [List.any_eq_true, not_exists, not_and]
      intro q hq; rw [h5 q hq]; simp
    repeat' first
           | (with_reducible apply go_op)
           | (with_reducible apply go_next)
           | ((with_reducible (show evOp _ _ _ _ _ _)); first
             | (((with_reducible apply go_mv_sl); rfl; rfl))
             | (((with_reducible apply go_load_own); rfl; rfl; rfl; rfl))
             | (((with_reducible apply go_fieldAddr_own); rfl; rfl; rfl))
             | (((with_reducible apply go_cmp); rfl; rfl; rfl; rfl))
             | (((with_reducible apply go_st_agg); rfl; rfl; rfl; rfl; rfl; rfl; rfl))
             | (((with_reducible apply go_index_agg); rfl; rfl; rfl; omega; rfl))
             | (((with_reducible apply go_alloc); rfl; rfl; rfl)))
           | ((with_reducible (show evOps _ _ _ _ _ _)); first
             | (with_reducible apply go_nil))
           | ((with_reducible (show evG _ _ _ _ _)); first
             | (with_reducible apply go_seq)
             | (with_reducible apply go_region)
             | ((with_reducible apply go_cond_t); rfl; rfl)
             | (with_reducible apply go_skipc)
             | (with_reducible apply go_block))
           | (with_reducible apply go_kseq)
    refine go_clo_bool (g := 120) (ys := []) (d1 := .sl (l.map encPt)) rfl rfl (fun _ _ => rfl) (c_shapes4 l h3 (by omega) h5) rfl ?_
    repeat' first
           | (with_reducible apply go_op)
           | (with_reducible apply go_next)
           | ((with_reducible (show evOp _ _ _ _ _ _)); first
             | (((with_reducible apply go_mv_int); rfl; rfl))
             | ((with_reducible apply go_as))
             | (((with_reducible apply go_load_own); rfl; rfl; rfl; rfl))
             | (((with_reducible apply go_fieldAddr_own); rfl; rfl; rfl))
             | (((with_reducible apply go_add); rfl; rfl; rfl; omega)))
           | ((with_reducible (show evOps _ _ _ _ _ _)); first
             | (with_reducible apply go_nil))
           | ((with_reducible (show evG _ _ _ _ _)); first
             | (with_reducible apply go_seq)
             | (with_reducible apply go_region)
             | (((with_reducible apply go_cond); rfl) <;> (intro h; simp only [h]; try simp only [decide_eq_true_eq, decide_eq_false_iff_not, Bool.not_eq_true', Bool.not_eq_false', Bool.not_true, Bool.not_false] at h; try exact absurd trivial h))
             | (with_reducible apply go_ret)
             | (with_reducible apply go_skipc))
           | (with_reducible apply go_kseq)
           | (with_reducible apply go_kseq_ret)
           | (with_reducible apply go_kblock)
           | (with_reducible apply go_kblock_ret)
           | ((with_reducible apply end_int); rfl)
    all_goals first
      | (unfold polyE; rw [if_neg (by omega), if_neg (by omega), if_neg hn, if_neg (by rw [‹simpleE l = false›]; simp)])
      | (exact ⟨by omega, ⟨by omega, by omega, fun _ => h5, fun _ => by simp_all⟩, entails_eq (nx := 0) (k := 0) (ns := []) (ks := [6, 5, 0]) [] rfl (by simp) (by kernel_rfl)⟩)
      | trace_state
  · have h3 := hC.1 (by omega)
    have h4 := hC.2.1 (by omega)
    have h5 := hC.2.2.1 (by omega)
    have h6 := hC.2.2.2 (by omega)
    have hn : ¬ (l.any fun p => !ptOK p) = true := by
      simp only [List.any_eq_true, not_exists, not_and]
      intro q hq; rw [h5 q hq]; simp
    repeat' first
           | (with_reducible apply go_op)
           | (with_reducible apply go_next)
           | ((with_reducible (show evOp _ _ _ _ _ _)); first
             | (((with_reducible apply go_mv_int); rfl; rfl))
             | ((with_reducible apply go_as))
             | (((with_reducible apply go_cmp); rfl; rfl; rfl; rfl)))
           | ((with_reducible (show evOps _ _ _ _ _ _)); first
             | (with_reducible apply go_nil))
           | ((with_reducible (show evG _ _ _ _ _)); first
             | (with_reducible apply go_seq)
             | (with_reducible apply go_region)
             | ((with_reducible apply go_cond_f); rfl; rfl)
             | (with_reducible apply go_ret)
             | (with_reducible apply go_exit))
           | (with_reducible apply go_kseq)
           | (with_reducible apply go_kblock_exit)
           | (with_reducible apply go_kseq_exit)
           | ((with_reducible apply end_int); rfl)
    all_goals first
      | (unfold polyE; rw [if_neg (by omega), if_neg (by omega), if_neg hn, if_pos h6])
      | trace_state
end Go.Pv.Geo

open Go Go.Proofs Go.Pv
set_option maxHeartbeats 4000000
set_option maxRecDepth 100000
set_option linter.unusedSimpArgs false
set_option linter.unusedVariables false
namespace Go.Pv.Geo
theorem on_first (a b : Pt) : onE a b a = true := by
  rw [onE, decide_eq_true_eq]
  exact ⟨by simp [crossE], by omega, by omega⟩
theorem meet_first (a b d : Pt) : meetE a b a d = true := by simp [meetE, on_first]
theorem simple_dup {l : List Pt} {k i : Nat} (hk : k < i) (hi : i < l.length) (h : l[i] = l[k]) : simpleE l = false := by
  have e1 : cornerP l k = l[k] := cornerP_lt (by omega)
  have e2 : cornerP l i = l[i] := cornerP_lt hi
  by_cases h1 : i = k + 1
  · subst h1
    exact simple_turn (i := k) (by omega) (by simp only [turnBad]; rw [e1, e2, h, ptEq_iff.2 rfl]; simp)
  by_cases h2 : (i + 1) % l.length = k
  · have hn : i + 1 = l.length := by
      rcases Nat.lt_or_ge (i + 1) l.length with hlt | hge
      · rw [Nat.mod_eq_of_lt hlt] at h2; omega
      · omega
    rw [hn, Nat.mod_self] at h2
    subst h2
    have e3 : cornerP l (i + 1) = l[0] := by
      rw [hn, cornerP_get (by omega)]; simp
    exact simple_turn (i := i) hi (by simp only [turnBad]; rw [e2, e3, h, ptEq_iff.2 rfl]; simp)
  · exact simple_pair (i := k) (k := i) (by omega) hi (by omega) (by
      simp only [pairBad, Bool.and_eq_true, decide_eq_true_eq]
      refine ⟨h2, ?_⟩
      rw [e1, e2, h]; exact meet_first _ _ _)
def rturn (l : List Pt) (i : Nat) : Bool := onE (cornerP l i) (cornerP l (i + 1)) (cornerP l (i + 2)) || onE (cornerP l (i + 1)) (cornerP l (i + 2)) (cornerP l i)
theorem rturn_bad {l : List Pt} {i : Nat} (h : rturn l i = true) : turnBad l i = true := by
  simp only [rturn, turnBad, Bool.or_eq_true] at *; rcases h with h | h <;> simp [h]
theorem turn_ok {l : List Pt} {i : Nat} (h3 : 3 ≤ l.length) (hi : i < l.length) (hd : ∀ i (hi : i < l.length), ∀ k (hk : k < i), l[i] ≠ l[k]) (h : rturn l i = false) : turnBad l i = false := by
  simp only [rturn, turnBad, Bool.or_eq_false_iff] at *
  refine ⟨⟨?_, h.1⟩, h.2⟩
  rw [Bool.eq_false_iff]
  intro he
  have he := ptEq_iff.1 he
  rw [cornerP_lt hi, cornerP_get (by omega)] at he
  rcases Nat.lt_or_ge (i + 1) l.length with hlt | hge
  · simp only [Nat.mod_eq_of_lt hlt] at he
    exact hd (i + 1) hlt i (by omega) he.symm
  · have hn : i + 1 = l.length := by omega
    simp only [hn, Nat.mod_self] at he
    exact hd i hi 0 (by omega) he

theorem c_rCheckPolygon (l : List Pt) : Contract Try.prog 45 [.sl (l.map encPt)] (.ret (.int .i64 (polyE l))) := by
  by_cases hb : 3 ≤ l.length ∧ l.length ≤ 40
  rotate_left
  · refine contract_of mix Try.func45 rfl rfl (by rw [Try.ntmps45]; exact Nat.le_of_ble_eq_true rfl) ?_; rw [Try.results45, Try.ntmps45]; simp only [argsE, Nat.reduceAdd]
    repeat' first
           | (with_reducible apply go_op)
           | (with_reducible apply go_next)
           | ((with_reducible (show evOp _ _ _ _ _ _)); first
             | ((with_reducible (show evOp _ (.move _) _ _ _ _)) ; first | ((with_reducible apply go_mv_int); rfl; rfl) | ((with_reducible apply go_mv_sl); rfl; rfl))
             | ((with_reducible apply go_as))
             | (((with_reducible apply go_cmp); rfl; rfl; rfl; rfl))
             | (((with_reducible apply go_len); rfl; rfl)))
           | ((with_reducible (show evOps _ _ _ _ _ _)); first
             | (with_reducible apply go_nil))
           | ((with_reducible (show evG _ _ _ _ _)); first
             | (with_reducible apply go_seq)
             | (with_reducible apply go_region)
             | (((with_reducible apply go_cond); rfl) <;> (intro h; simp only [h]; try simp only [decide_eq_true_eq, decide_eq_false_iff_not, Bool.not_eq_true', Bool.not_eq_false', Bool.not_true, Bool.not_false] at h; try exact absurd trivial h))
             | (with_reducible apply go_ret)
             | (with_reducible apply go_skipc)
             | (with_reducible apply go_block))
           | (with_reducible apply go_kseq)
           | (with_reducible apply go_kseq_ret)
           | ((with_reducible apply end_int); rfl)
    · unfold polyE; rw [if_pos (by omega)]
    · unfold polyE; rw [if_neg (by omega), if_pos (by omega)]
    · exfalso; omega
  have hp4 : ∀ p ∈ l, ptOK p = false → polyE l = 2 := fun p hp ho => by
    unfold polyE; rw [if_neg (by omega), if_neg (by omega), if_pos (List.any_eq_true.2 ⟨p, hp, by rw [ho]; rfl⟩)]
  have hpo : (∀ p ∈ l, ptOK p = true) → polyE l = if simpleE l = true then 0 else 3 := fun h => by
    unfold polyE; rw [if_neg (by omega), if_neg (by omega), if_neg]
    simp only [List.any_eq_true, not_exists, not_and]
    intro q hq; rw [h q hq]; simp
  refine contract_of mix Try.func45 rfl rfl (by rw [Try.ntmps45]; exact Nat.le_of_ble_eq_true rfl) ?_; rw [Try.results45, Try.ntmps45]; simp only [argsE, Nat.reduceAdd]
  repeat' first
           | (with_reducible apply go_op)
           | (with_reducible apply go_next)
           | ((with_reducible (show evOp _ _ _ _ _ _)); first
             | ((with_reducible (show evOp _ (.move _) _ _ _ _)) ; first | ((with_reducible apply go_mv_int); rfl; rfl) | ((with_reducible apply go_mv_sl); rfl; rfl))
             | ((with_reducible apply go_as))
             | (((with_reducible apply go_cmp); rfl; rfl; rfl; rfl))
             | (((with_reducible apply go_len); rfl; rfl)))
           | ((with_reducible (show evOps _ _ _ _ _ _)); first
             | (with_reducible apply go_nil))
           | ((with_reducible (show evG _ _ _ _ _)); first
             | (with_reducible apply go_seq)
             | (with_reducible apply go_region)
             | (((with_reducible apply go_cond); rfl) <;> (intro h; simp only [h]; try simp only [decide_eq_true_eq, decide_eq_false_iff_not, Bool.not_eq_true', Bool.not_eq_false', Bool.not_true, Bool.not_false] at h; try exact absurd trivial h))
             | (with_reducible apply go_ret)
             | (with_reducible apply go_skipc)
             | (with_reducible apply go_block))
           | (with_reducible apply go_kseq)
           | (with_reducible apply go_kseq_ret)
           | ((with_reducible apply end_int); rfl)
  all_goals try (exfalso; omega)
  refine go_count (l.length) (fun i => ⟨[(3, .int .i64 i), (0, .sl (l.map encPt))], [], 0, 102⟩) (fun i => ∀ j (hj : j < i) (hj' : j < l.length), ptOK l[j] = true) (entails_eq (k := 0) (ns := []) (ks := [3, 0]) [] rfl (by simp) rfl) (by omega) ?_
  intro i hi hC
  by_cases h2 : i < l.length
  · have g := c_good l[i]
    cases hp : ptOK l[i]
    · rw [hp] at g
      have e := hp4 _ (List.getElem_mem h2) hp
      repeat' first
           | (with_reducible apply go_op)
           | (with_reducible apply go_next)
           | ((with_reducible (show evOp _ _ _ _ _ _)); first
             | ((with_reducible (show evOp _ (.move _) _ _ _ _)) ; first | ((with_reducible apply go_mv_int); rfl; rfl) | ((with_reducible apply go_mv_sl); rfl; rfl))
             | ((with_reducible apply go_as))
             | (((with_reducible apply go_ld_ptr); rfl; rfl; rfl))
             | (((with_reducible apply go_index_nat); rfl; rfl; (with_reducible rfl); (intro; rfl); rfl; omega; (intro hlt)))
             | (((with_reducible apply go_cmp); rfl; rfl; rfl; rfl))
             | ((with_reducible (show evOp _ (.call _) _ _ _ _)) ; first | ((with_reducible apply go_len); rfl; rfl) | ((with_reducible apply go_fn_bool); rfl; (exact g); rfl))
             | (((with_reducible apply go_not); rfl; rfl)))
           | ((with_reducible (show evOps _ _ _ _ _ _)); first
             | (with_reducible apply go_nil))
           | ((with_reducible (show evG _ _ _ _ _)); first
             | (with_reducible apply go_seq)
             | (with_reducible apply go_region)
             | ((with_reducible apply go_cond_t); rfl; rfl)
             | (((with_reducible apply go_cond); rfl) <;> (intro h; simp only [h]; try simp only [decide_eq_true_eq, decide_eq_false_iff_not, Bool.not_eq_true', Bool.not_eq_false', Bool.not_true, Bool.not_false] at h; try exact absurd trivial h))
             | (with_reducible apply go_ret)
             | (with_reducible apply go_skipc)
             | (with_reducible apply go_block)
             | (with_reducible apply go_exit))
           | (with_reducible apply go_kseq)
           | (with_reducible apply go_kseq_ret)
           | (with_reducible apply go_kblock_ret)
           | (with_reducible apply go_kblock_exit)
           | (with_reducible apply go_kseq_exit)
           | ((with_reducible apply end_int); rfl)
      all_goals first | (exfalso; omega) | exact e.symm
    · rw [hp] at g
      repeat' first
           | (with_reducible apply go_op)
           | (with_reducible apply go_next)
           | ((with_reducible (show evOp _ _ _ _ _ _)); first
             | ((with_reducible (show evOp _ (.move _) _ _ _ _)) ; first | ((with_reducible apply go_mv_int); rfl; rfl) | ((with_reducible apply go_mv_sl); rfl; rfl))
             | ((with_reducible apply go_as))
             | (((with_reducible apply go_ld_ptr); rfl; rfl; rfl))
             | (((with_reducible apply go_index_nat); rfl; rfl; (with_reducible rfl); (intro; rfl); rfl; omega; (intro hlt)))
             | ((with_reducible (show evOp _ (.binOp _ _ _ _ _) _ _ _ _)) ; first | ((with_reducible apply go_cmp); rfl; rfl; rfl; rfl) | ((with_reducible apply go_add); rfl; rfl; rfl; omega))
             | ((with_reducible (show evOp _ (.call _) _ _ _ _)) ; first | ((with_reducible apply go_len); rfl; rfl) | ((with_reducible apply go_fn_bool); rfl; (exact g); rfl))
             | (((with_reducible apply go_not); rfl; rfl)))
           | ((with_reducible (show evOps _ _ _ _ _ _)); first
             | (with_reducible apply go_nil))
           | ((with_reducible (show evG _ _ _ _ _)); first
             | (with_reducible apply go_seq)
             | (with_reducible apply go_region)
             | ((with_reducible apply go_cond_f); rfl; rfl)
             | (((with_reducible apply go_cond); rfl) <;> (intro h; simp only [h]; try simp only [decide_eq_true_eq, decide_eq_false_iff_not, Bool.not_eq_true', Bool.not_eq_false', Bool.not_true, Bool.not_false] at h; try exact absurd trivial h))
             | (with_reducible apply go_skipc)
             | (with_reducible apply go_block)
             | (with_reducible apply go_exit))
           | (with_reducible apply go_kseq)
           | (with_reducible apply go_kblock)
           | (with_reducible apply go_kblock_exit)
           | (with_reducible apply go_kseq_exit)
      all_goals first
        | (exfalso; omega)
        | (refine ⟨h2, fun j hj hj' => ?_, entails_eq (k := 0) (ns := []) (ks := [3, 0]) [] rfl (by simp) rfl⟩
           rcases Nat.lt_succ_iff_lt_or_eq.1 hj with h' | rfl
           · exact hC j h' hj'
           · exact hp)
  have hok : ∀ p ∈ l, ptOK p = true := fun p hp => by
    obtain ⟨j, hj, rfl⟩ := List.mem_iff_getElem.1 hp
    exact hC j (by omega) hj
  have hpe := hpo hok
  have h0 : 0 < l.length := by omega
  clear hpo hp4
  repeat' first
           | (with_reducible apply go_op)
           | (with_reducible apply go_next)
           | ((with_reducible (show evOp _ _ _ _ _ _)); first
             | ((with_reducible (show evOp _ (.move _) _ _ _ _)) ; first | ((with_reducible apply go_mv_int); rfl; rfl) | ((with_reducible apply go_mv_sl); rfl; rfl))
             | ((with_reducible apply go_as))
             | (((with_reducible apply go_ld_ptr); rfl; rfl; rfl))
             | (((with_reducible apply go_index_nat); rfl; rfl; (with_reducible rfl); (intro; rfl); rfl; omega; (intro hlt)))
             | (((with_reducible apply go_cmp); rfl; rfl; rfl; rfl))
             | (((with_reducible apply go_len); rfl; rfl)))
           | ((with_reducible (show evOps _ _ _ _ _ _)); first
             | (with_reducible apply go_nil))
           | ((with_reducible (show evG _ _ _ _ _)); first
             | (with_reducible apply go_seq)
             | (with_reducible apply go_region)
             | (((with_reducible apply go_cond); rfl) <;> (intro h; simp only [h]; try simp only [decide_eq_true_eq, decide_eq_false_iff_not, Bool.not_eq_true', Bool.not_eq_false', Bool.not_true, Bool.not_false] at h; try exact absurd trivial h))
             | (with_reducible apply go_skipc)
             | (with_reducible apply go_block)
             | (with_reducible apply go_exit))
           | (with_reducible apply go_kseq)
           | (with_reducible apply go_kblock_exit)
           | (with_reducible apply go_kseq_exit)
  all_goals try (exfalso; omega)
  refine go_count (l.length) (fun i => ⟨[(5, .int .i64 i), (4, .int .i64 l.length), (0, .sl (l.map encPt))], [], 0, 102⟩) (fun i => ∀ j (hj : j < i) (hj' : j < l.length), ∀ k (hk : k < j), l[j] ≠ l[k]) (entails_eq (k := 0) (ns := []) (ks := [5, 4, 0]) [] rfl (by simp) rfl) (by omega) ?_
  intro i hi hC
  by_cases h2 : i < l.length
  · repeat' first
           | (with_reducible apply go_op)
           | (with_reducible apply go_next)
           | ((with_reducible (show evOp _ _ _ _ _ _)); first
             | (((with_reducible apply go_mv_int); rfl; rfl))
             | ((with_reducible apply go_as))
             | (((with_reducible apply go_cmp); rfl; rfl; rfl; rfl)))
           | ((with_reducible (show evOps _ _ _ _ _ _)); first
             | (with_reducible apply go_nil))
           | ((with_reducible (show evG _ _ _ _ _)); first
             | (with_reducible apply go_seq)
             | (with_reducible apply go_region)
             | (((with_reducible apply go_cond); rfl) <;> (intro h; simp only [h]; try simp only [decide_eq_true_eq, decide_eq_false_iff_not, Bool.not_eq_true', Bool.not_eq_false', Bool.not_true, Bool.not_false] at h; try exact absurd trivial h))
             | (with_reducible apply go_skipc)
             | (with_reducible apply go_block)
             | (with_reducible apply go_exit))
           | (with_reducible apply go_kseq)
           | (with_reducible apply go_kblock_exit)
           | (with_reducible apply go_kseq_exit)
    all_goals try (exfalso; omega)
    refine go_count i (fun k => ⟨[(6, .int .i64 k), (5, .int .i64 i), (4, .int .i64 l.length), (0, .sl (l.map encPt))], [], 0, 102⟩) (fun k => ∀ j (hj : j < k) (hj' : j < i), l[i] ≠ l[j])
      (entails_eq (nx := 0) (k := 0) (ns := []) (ks := [6, 5, 4, 0]) [] rfl (by simp) (by kernel_rfl)) (by omega) ?_
    intro k hk hC2
    by_cases h3 : k < i
    · repeat' first
           | (with_reducible apply go_op)
           | (with_reducible apply go_next)
           | ((with_reducible (show evOp _ _ _ _ _ _)); first
             | ((with_reducible (show evOp _ (.move _) _ _ _ _)) ; first | ((with_reducible apply go_mv_int); rfl; rfl) | ((with_reducible apply go_mv_sl); rfl; rfl))
             | ((with_reducible apply go_as))
             | (((with_reducible apply go_ld_ptr); rfl; rfl; rfl))
             | (((with_reducible apply go_index_nat); rfl; rfl; (with_reducible rfl); (intro; rfl); rfl; omega; (intro hlt)))
             | ((with_reducible (show evOp _ (.binOp _ _ _ _ _) _ _ _ _)) ; first | ((with_reducible apply go_cmp); rfl; rfl; rfl; rfl) | ((with_reducible apply go_add); rfl; rfl; rfl; omega) | ((with_reducible apply go_eql_agg); rfl; rfl; rfl; rfl)))
           | ((with_reducible (show evOps _ _ _ _ _ _)); first
             | (with_reducible apply go_nil)
             | ((with_reducible apply go_pre); rfl)
             | (with_reducible apply go_pre_nil)
             | ((with_reducible apply go_suf); rfl)
             | (with_reducible apply go_suf_nil))
           | ((with_reducible (show evG _ _ _ _ _)); first
             | (with_reducible apply go_seq)
             | (with_reducible apply go_region)
             | (((with_reducible apply go_cond); rfl) <;> (intro h; simp only [h]; try simp only [decide_eq_true_eq, decide_eq_false_iff_not, Bool.not_eq_true', Bool.not_eq_false', Bool.not_true, Bool.not_false] at h; try exact absurd trivial h))
             | ((with_reducible apply go_order); kernel_rfl; rfl)
             | (with_reducible apply go_ret)
             | (with_reducible apply go_skipc)
             | (with_reducible apply go_block)
             | (with_reducible apply go_exit))
           | (with_reducible apply go_kseq)
           | (with_reducible apply go_ksuf)
           | (with_reducible apply go_kseq_ret)
           | (with_reducible apply go_kblock)
           | (with_reducible apply go_kblock_ret)
           | (with_reducible apply go_kblock_exit)
           | (with_reducible apply go_kseq_exit)
           | ((with_reducible apply end_int); rfl)
      all_goals first
        | (exfalso; omega)
        | (have e1 : ptEq l[i] l[k] = true := by assumption
           rw [hpe, simple_dup h3 h2 (ptEq_iff.1 e1)]; rfl)
        | (have e1 : ptEq l[i] l[k] = false := by assumption
           refine ⟨h3, fun j hj hj' => ?_, entails_eq (nx := 0) (k := 0) (ns := []) (ks := [6, 5, 4, 0]) [] rfl (by simp) (by kernel_rfl)⟩
           rcases Nat.lt_succ_iff_lt_or_eq.1 hj with h' | rfl
           · exact hC2 j h' hj'
           · intro he; rw [ptEq_iff.2 he] at e1; cases e1)
        | trace_state
    · repeat' first
           | (with_reducible apply go_op)
           | (with_reducible apply go_next)
           | ((with_reducible (show evOp _ _ _ _ _ _)); first
             | ((with_reducible (show evOp _ (.move _) _ _ _ _)) ; first | ((with_reducible apply go_mv_int); rfl; rfl) | ((with_reducible apply go_mv_sl); rfl; rfl))
             | ((with_reducible apply go_as))
             | (((with_reducible apply go_ld_ptr); rfl; rfl; rfl))
             | (((with_reducible apply go_index_nat); rfl; rfl; (with_reducible rfl); (intro; rfl); rfl; omega; (intro hlt)))
             | ((with_reducible (show evOp _ (.binOp _ _ _ _ _) _ _ _ _)) ; first | ((with_reducible apply go_cmp); rfl; rfl; rfl; rfl) | ((with_reducible apply go_add); rfl; rfl; rfl; omega) | ((with_reducible apply go_eql_agg); rfl; rfl; rfl; rfl)))
           | ((with_reducible (show evOps _ _ _ _ _ _)); first
             | (with_reducible apply go_nil)
             | ((with_reducible apply go_pre); rfl)
             | (with_reducible apply go_pre_nil)
             | ((with_reducible apply go_suf); rfl)
             | (with_reducible apply go_suf_nil))
           | ((with_reducible (show evG _ _ _ _ _)); first
             | (with_reducible apply go_seq)
             | (with_reducible apply go_region)
             | (((with_reducible apply go_cond); rfl) <;> (intro h; simp only [h]; try simp only [decide_eq_true_eq, decide_eq_false_iff_not, Bool.not_eq_true', Bool.not_eq_false', Bool.not_true, Bool.not_false] at h; try exact absurd trivial h))
             | ((with_reducible apply go_order); kernel_rfl; rfl)
             | (with_reducible apply go_ret)
             | (with_reducible apply go_skipc)
             | (with_reducible apply go_block)
             | (with_reducible apply go_exit))
           | (with_reducible apply go_kseq)
           | (with_reducible apply go_ksuf)
           | (with_reducible apply go_kseq_ret)
           | (with_reducible apply go_kblock)
           | (with_reducible apply go_kblock_ret)
           | (with_reducible apply go_kblock_exit)
           | (with_reducible apply go_kseq_exit)
           | ((with_reducible apply end_int); rfl)
      all_goals first
        | (exfalso; omega)
        | (refine ⟨h2, fun j hj hj' => ?_, entails_eq (k := 0) (ns := []) (ks := [5, 4, 0]) [] rfl (by simp) rfl⟩
           rcases Nat.lt_succ_iff_lt_or_eq.1 hj with h' | rfl
           · exact hC j h' hj'
           · exact fun k' hk' => hC2 k' (by omega) hk')
        | trace_state
  have hd : ∀ i (hi : i < l.length), ∀ k (hk : k < i), l[i] ≠ l[k] := fun i' hi' => hC i' (by omega) hi'
  repeat' first
           | (with_reducible apply go_op)
           | (with_reducible apply go_next)
           | ((with_reducible (show evOp _ _ _ _ _ _)); first
             | (((with_reducible apply go_mv_int); rfl; rfl))
             | ((with_reducible apply go_as))
             | (((with_reducible apply go_cmp); rfl; rfl; rfl; rfl)))
           | ((with_reducible (show evOps _ _ _ _ _ _)); first
             | (with_reducible apply go_nil))
           | ((with_reducible (show evG _ _ _ _ _)); first
             | (with_reducible apply go_seq)
             | (with_reducible apply go_region)
             | (((with_reducible apply go_cond); rfl) <;> (intro h; simp only [h]; try simp only [decide_eq_true_eq, decide_eq_false_iff_not, Bool.not_eq_true', Bool.not_eq_false', Bool.not_true, Bool.not_false] at h; try exact absurd trivial h))
             | (with_reducible apply go_skipc)
             | (with_reducible apply go_block)
             | (with_reducible apply go_exit))
           | (with_reducible apply go_kseq)
           | (with_reducible apply go_kblock_exit)
           | (with_reducible apply go_kseq_exit)
  all_goals try (exfalso; omega)
  refine go_count (l.length) (fun i => ⟨[(7, .int .i64 i), (4, .int .i64 l.length), (0, .sl (l.map encPt))], [], 0, 102⟩) (fun i => ∀ j, j < i → rturn l j = false ∧ ∀ k, k < l.length → j + 2 ≤ k → pairBad l j k = false) (entails_eq (k := 0) (ns := []) (ks := [7, 4, 0]) [] rfl (by simp) rfl) (by omega) ?_
  intro i hi hC
  by_cases h2 : i < l.length
  rotate_left
  · repeat' first
           | (with_reducible apply go_op)
           | (with_reducible apply go_next)
           | ((with_reducible (show evOp _ _ _ _ _ _)); first
             | ((with_reducible (show evOp _ (.move _) _ _ _ _)) ; first | ((with_reducible apply go_mv_int); rfl; rfl) | ((with_reducible apply go_mv_sl); rfl; rfl))
             | ((with_reducible apply go_as))
             | (((with_reducible apply go_cmp); rfl; rfl; rfl; rfl)))
           | ((with_reducible (show evOps _ _ _ _ _ _)); first
             | (with_reducible apply go_nil))
           | ((with_reducible (show evG _ _ _ _ _)); first
             | (with_reducible apply go_seq)
             | (with_reducible apply go_region)
             | (((with_reducible apply go_cond); rfl) <;> (intro h; simp only [h]; try simp only [decide_eq_true_eq, decide_eq_false_iff_not, Bool.not_eq_true', Bool.not_eq_false', Bool.not_true, Bool.not_false] at h; try exact absurd trivial h))
             | (with_reducible apply go_ret)
             | (with_reducible apply go_skipc)
             | (with_reducible apply go_block)
             | (with_reducible apply go_exit))
           | (with_reducible apply go_kseq)
           | (with_reducible apply go_kblock_exit)
           | (with_reducible apply go_kseq_exit)
           | ((with_reducible apply end_int); rfl)
    all_goals first
      | (exfalso; omega)
      | (rw [hpe, simple_yes (fun j hj => turn_ok hb.1 hj hd (hC j (by omega)).1) fun j hj k hk hjk => (hC j (by omega)).2 k hk hjk]; rfl)
      | trace_state
  have o0 := hok _ (cornerP_mem h0 i)
  have o1 := hok _ (cornerP_mem h0 (i + 1))
  have o2 := hok _ (cornerP_mem h0 (i + 2))
  have k0 := c_rcorner l h0 (by omega) i
  have k1 : Contract Try.prog 90 [.sl (l.map encPt), .int .i64 ((i : Int) + 1)] (.ret (.agg (encPt (cornerP l (i + 1))))) := c_rcorner l h0 (by omega) (i + 1)
  have k2 : Contract Try.prog 90 [.sl (l.map encPt), .int .i64 ((i : Int) + 2)] (.ret (.agg (encPt (cornerP l (i + 2))))) := c_rcorner l h0 (by omega) (i + 2)
  have n1 := c_rbetween (cornerP l i) (cornerP l (i + 1)) (cornerP l (i + 2)) o0 o1 o2
  have n2 := c_rbetween (cornerP l (i + 1)) (cornerP l (i + 2)) (cornerP l i) o1 o2 o0
  have hst := fun h => simple_turn (l := l) h2 (rturn_bad h)
  have hbad : rturn l i = (onE (cornerP l i) (cornerP l (i + 1)) (cornerP l (i + 2)) || onE (cornerP l (i + 1)) (cornerP l (i + 2)) (cornerP l i)) := rfl
  rw [hbad] at hst
  generalize ha : cornerP l i = a at *
  generalize hb' : cornerP l (i + 1) = b at *
  generalize hc : cornerP l (i + 2) = c at *
  have hCi : ∀ j, j < i → rturn l j = false ∧ ∀ k, k < l.length → j + 2 ≤ k → pairBad l j k = false := hC
  repeat' first
           | (with_reducible apply go_op)
           | (with_reducible apply go_next)
           | ((with_reducible (show evOp _ _ _ _ _ _)); first
             | ((with_reducible (show evOp _ (.move _) _ _ _ _)) ; first | ((with_reducible apply go_mv_int); rfl; rfl) | ((with_reducible apply go_mv_bool); rfl; rfl) | ((with_reducible apply go_mv_sl); rfl; rfl))
             | ((with_reducible apply go_as))
             | (((with_reducible apply go_ld_agg); rfl; rfl; rfl; rfl))
             | ((with_reducible (show evOp _ (.binOp _ _ _ _ _) _ _ _ _)) ; first | ((with_reducible apply go_cmp); rfl; rfl; rfl; rfl) | ((with_reducible apply go_add); rfl; rfl; rfl; omega))
             | ((with_reducible (show evOp _ (.call _) _ _ _ _)) ; first | ((with_reducible apply go_fn_plain); rfl; (exact k0); rfl; (exact Nat.le_of_ble_eq_true rfl); rfl) | ((with_reducible apply go_fn_plain); rfl; (exact k1); rfl; (exact Nat.le_of_ble_eq_true rfl); rfl) | ((with_reducible apply go_fn_plain); rfl; (exact k2); rfl; (exact Nat.le_of_ble_eq_true rfl); rfl) | ((with_reducible apply go_fn_bool); rfl; (exact n1); rfl) | ((with_reducible apply go_fn_bool); rfl; (exact n2); rfl))
             | (((with_reducible apply go_st_agg); rfl; rfl; rfl; rfl; rfl; rfl; rfl))
             | (((with_reducible apply go_pick); rfl; rfl; rfl))
             | (((with_reducible apply go_alloc); rfl; rfl; rfl)))
           | ((with_reducible (show evOps _ _ _ _ _ _)); first
             | (with_reducible apply go_nil)
             | ((with_reducible apply go_run); rfl; rfl)
             | ((with_reducible apply go_pass); rfl; rfl; rfl)
             | (((with_reducible apply go_guard); rfl) <;> (intro h; simp only [h, Bool.not_true, Bool.not_false]; (try with_reducible (refine ⟨rfl, ?_⟩)); try simp only [decide_eq_true_eq, decide_eq_false_iff_not, Bool.not_eq_true', Bool.not_eq_false', Bool.not_true, Bool.not_false] at h; try exact absurd trivial h)))
           | ((with_reducible (show evG _ _ _ _ _)); first
             | (with_reducible apply go_seq)
             | (with_reducible apply go_region)
             | ((with_reducible apply go_cond_t); rfl; rfl)
             | (((with_reducible apply go_cond); rfl) <;> (intro h; simp only [h]; try simp only [decide_eq_true_eq, decide_eq_false_iff_not, Bool.not_eq_true', Bool.not_eq_false', Bool.not_true, Bool.not_false] at h; try exact absurd trivial h))
             | (with_reducible apply go_ret)
             | (with_reducible apply go_skipc)
             | (with_reducible apply go_block)
             | (with_reducible apply go_exit))
           | (with_reducible apply go_kseq)
           | (with_reducible apply go_kseq_ret)
           | (with_reducible apply go_kblock_ret)
           | (with_reducible apply go_kblock_exit)
           | (with_reducible apply go_kseq_exit)
           | ((with_reducible apply end_int); rfl)
  all_goals try (exfalso; omega)
  · rw [hpe, hst (by simp [*])]; rfl
  · have hb0 : rturn l i = false := by rw [hbad]; simp [*]
    refine go_count l.length (fun j => ⟨[(11, .int .i64 ((i + 2 + j : Nat) : Int)), (7, .int .i64 i), (4, .int .i64 l.length), (8, .op 0 0 0), (9, .op 1 0 0), (0, .sl (l.map encPt))], [(0, ⟨2, true, [encPt a]⟩), (1, ⟨2, true, [encPt b]⟩)], 32, 102⟩) (fun j => ∀ k, k < l.length → i + 2 ≤ k → k < i + 2 + j → pairBad l i k = false)
      (entails_eq (nx := 32) (k := 0) (ns := []) (ks := [11, 7, 4, 8, 9, 0]) [(448, 0), (480, 1)] rfl (by simp) (by kernel_rfl)) (by omega) ?_
    intro j hj hC2
    by_cases h5 : i + 2 + j < l.length
    · have q0 := hok _ (cornerP_mem h0 (i + 2 + j))
      have q1 := hok _ (cornerP_mem h0 (i + 2 + j + 1))
      have k3 := c_rcorner l h0 (by omega) (i + 2 + j)
      have k4 : Contract Try.prog 90 [.sl (l.map encPt), .int .i64 (((i + 2 + j : Nat) : Int) + 1)] (.ret (.agg (encPt (cornerP l (i + 2 + j + 1))))) := c_rcorner l h0 (by omega) (i + 2 + j + 1)
      have mt := c_rmeet a b (cornerP l (i + 2 + j)) (cornerP l (i + 2 + j + 1)) o0 o1 q0 q1
      have hpb : pairBad l i (i + 2 + j) = (decide ((i + 2 + j + 1) % l.length ≠ i) && meetE a b (cornerP l (i + 2 + j)) (cornerP l (i + 2 + j + 1))) := by rw [pairBad, ha, hb']
      have hsp := fun h => simple_pair (l := l) h2 h5 (by omega) h
      rw [hpb] at hsp
      have hmod : (((i + 2 + j : Nat) : Int) + 1) % (l.length : Int) = (((i + 2 + j + 1) % l.length : Nat) : Int) := by
        rw [Int.natCast_emod]; rfl
      generalize cornerP l (i + 2 + j + 1) = d at *
      generalize cornerP l (i + 2 + j) = e at *
      generalize hk : i + 2 + j = k at *
      repeat' first
           | (with_reducible apply go_op)
           | (with_reducible apply go_next)
           | ((with_reducible (show evOp _ _ _ _ _ _)); first
             | ((with_reducible (show evOp _ (.move _) _ _ _ _)) ; first | ((with_reducible apply go_mv_int); rfl; rfl) | ((with_reducible apply go_mv_bool); rfl; rfl) | ((with_reducible apply go_mv_sl); rfl; rfl))
             | ((with_reducible apply go_as))
             | (((with_reducible apply go_ld_agg); rfl; rfl; rfl; rfl))
             | ((with_reducible (show evOp _ (.binOp _ _ _ _ _) _ _ _ _)) ; first | ((with_reducible apply go_cmp); rfl; rfl; rfl; rfl) | ((with_reducible apply go_add); rfl; rfl; rfl; omega) | ((with_reducible apply go_rem_pos); rfl; rfl; rfl; omega))
             | ((with_reducible (show evOp _ (.call _) _ _ _ _)) ; first | ((with_reducible apply go_fn_plain); rfl; (exact k3); rfl; (exact Nat.le_of_ble_eq_true rfl); rfl) | ((with_reducible apply go_fn_plain); rfl; (exact k4); rfl; (exact Nat.le_of_ble_eq_true rfl); rfl) | ((with_reducible apply go_fn_bool); rfl; (exact mt); rfl))
             | (((with_reducible apply go_pick); rfl; rfl; rfl)))
           | ((with_reducible (show evOps _ _ _ _ _ _)); first
             | (with_reducible apply go_nil)
             | ((with_reducible apply go_run); rfl; rfl)
             | ((with_reducible apply go_pass); rfl; rfl; rfl)
             | (((with_reducible apply go_guard); rfl) <;> (intro h; simp only [h, Bool.not_true, Bool.not_false]; (try with_reducible (refine ⟨rfl, ?_⟩)); try simp only [decide_eq_true_eq, decide_eq_false_iff_not, Bool.not_eq_true', Bool.not_eq_false', Bool.not_true, Bool.not_false] at h; try exact absurd trivial h))
             | ((with_reducible apply go_pre); rfl)
             | (with_reducible apply go_pre_nil)
             | ((with_reducible apply go_suf); rfl)
             | (with_reducible apply go_suf_nil))
           | ((with_reducible (show evG _ _ _ _ _)); first
             | (with_reducible apply go_seq)
             | (with_reducible apply go_region)
             | ((with_reducible apply go_cond_f); rfl; rfl)
             | (((with_reducible apply go_cond); rfl) <;> (intro h; simp only [h]; try simp only [decide_eq_true_eq, decide_eq_false_iff_not, Bool.not_eq_true', Bool.not_eq_false', Bool.not_true, Bool.not_false] at h; try exact absurd trivial h))
             | ((with_reducible apply go_order); kernel_rfl; rfl)
             | (with_reducible apply go_ret)
             | (with_reducible apply go_skipc)
             | (with_reducible apply go_block)
             | (with_reducible apply go_exit))
           | (with_reducible apply go_kseq)
           | (with_reducible apply go_ksuf)
           | (with_reducible apply go_kseq_ret)
           | (with_reducible apply go_kblock)
           | (with_reducible apply go_kblock_ret)
           | (with_reducible apply go_kblock_exit)
           | (with_reducible apply go_kseq_exit)
           | ((with_reducible apply end_int); rfl)
      all_goals first
        | (exfalso; omega)
        | (rw [hpe, hsp ?_]; rfl
           simp only [Bool.and_eq_true, decide_eq_true_eq]
           exact ⟨by omega, by assumption⟩)
        | (refine ⟨by omega, fun k' hk' hk2 hk3 => ?_, ?_⟩
           · by_cases hlast : k' < k
             · exact hC2 k' hk' hk2 (by omega)
             · have : k' = k := by omega
               subst this
               rw [hpb]
               by_cases hm2 : (k' + 1) % l.length = i
               · simp only [hm2, ne_eq, not_true_eq_false, decide_false, Bool.false_and]
               · have : meetE a b e d = false := by first | assumption | (exfalso; omega)
                 rw [this, Bool.and_false]
           · rw [show i + 2 + (j + 1) = k + 1 by omega]
             exact entails_eq (nx := 32) (k := 0) (ns := []) (ks := [11, 7, 4, 8, 9, 0]) [(0, 0), (1, 1)] rfl (by simp) (by kernel_rfl))
        | trace_state
    · repeat' first
           | (with_reducible apply go_op)
           | (with_reducible apply go_next)
           | ((with_reducible (show evOp _ _ _ _ _ _)); first
             | ((with_reducible (show evOp _ (.move _) _ _ _ _)) ; first | ((with_reducible apply go_mv_int); rfl; rfl) | ((with_reducible apply go_mv_bool); rfl; rfl) | ((with_reducible apply go_mv_sl); rfl; rfl))
             | ((with_reducible apply go_as))
             | (((with_reducible apply go_ld_agg); rfl; rfl; rfl; rfl))
             | ((with_reducible (show evOp _ (.binOp _ _ _ _ _) _ _ _ _)) ; first | ((with_reducible apply go_cmp); rfl; rfl; rfl; rfl) | ((with_reducible apply go_add); rfl; rfl; rfl; omega) | ((with_reducible apply go_rem_pos); rfl; rfl; rfl; omega))
             | (((with_reducible apply go_pick); rfl; rfl; rfl)))
           | ((with_reducible (show evOps _ _ _ _ _ _)); first
             | (with_reducible apply go_nil)
             | ((with_reducible apply go_run); rfl; rfl)
             | ((with_reducible apply go_pass); rfl; rfl; rfl)
             | (((with_reducible apply go_guard); rfl) <;> (intro h; simp only [h, Bool.not_true, Bool.not_false]; (try with_reducible (refine ⟨rfl, ?_⟩)); try simp only [decide_eq_true_eq, decide_eq_false_iff_not, Bool.not_eq_true', Bool.not_eq_false', Bool.not_true, Bool.not_false] at h; try exact absurd trivial h))
             | ((with_reducible apply go_pre); rfl)
             | (with_reducible apply go_pre_nil)
             | ((with_reducible apply go_suf); rfl)
             | (with_reducible apply go_suf_nil))
           | ((with_reducible (show evG _ _ _ _ _)); first
             | (with_reducible apply go_seq)
             | (with_reducible apply go_region)
             | ((with_reducible apply go_cond_f); rfl; rfl)
             | (((with_reducible apply go_cond); rfl) <;> (intro h; simp only [h]; try simp only [decide_eq_true_eq, decide_eq_false_iff_not, Bool.not_eq_true', Bool.not_eq_false', Bool.not_true, Bool.not_false] at h; try exact absurd trivial h))
             | ((with_reducible apply go_order); kernel_rfl; rfl)
             | (with_reducible apply go_skipc)
             | (with_reducible apply go_block)
             | (with_reducible apply go_exit))
           | (with_reducible apply go_kseq)
           | (with_reducible apply go_ksuf)
           | (with_reducible apply go_kblock)
           | (with_reducible apply go_kblock_exit)
           | (with_reducible apply go_kseq_exit)
      all_goals first
        | (exfalso; omega)
        | (refine ⟨h2, fun j' hj' => ?_, entails_eq (k := 0) (ns := []) (ks := [7, 4, 0]) [] rfl (by simp) rfl⟩
           rcases Nat.lt_succ_iff_lt_or_eq.1 hj' with h' | rfl
           · exact hCi j' h'
           · exact ⟨hb0, fun k hk hik => hC2 k hk hik (by omega)⟩)
        | trace_state
  · rw [hpe, hst (by simp [*])]; rfl
end Go.Pv.Geo

open Go Go.Proofs Go.Pv
set_option maxHeartbeats 4000000
set_option maxRecDepth 100000
set_option linter.unusedSimpArgs false
set_option linter.unusedVariables false
namespace Go.Pv.Geo
def sumTo (f : Nat → Int) : Nat → Int
  | 0 => 0
  | i + 1 => sumTo f i + f i
theorem sumTo_bd {f : Nat → Int} {B : Int} (h : ∀ i, -B ≤ f i ∧ f i ≤ B) : ∀ n : Nat, -(B * n) ≤ sumTo f n ∧ sumTo f n ≤ B * n
  | 0 => by simp [sumTo]
  | n + 1 => by
    have ih := sumTo_bd h n
    have := h n
    have e : B * ((n + 1 : Nat) : Int) = B * n + B := by rw [show ((n + 1 : Nat) : Int) = (n : Int) + 1 by rfl, Int.mul_add, Int.mul_one]
    simp only [sumTo]
    omega
def areaT (l : List Pt) (i : Nat) : Int := crossE (cornerP l 0) (cornerP l i) (cornerP l (i + 1))
def areaS (l : List Pt) : Int := sumTo (areaT l) l.length
def areaE (l : List Pt) : Int := absE (areaS l)
theorem areaT_bd {l : List Pt} (h0 : 0 < l.length) (hok : ∀ p ∈ l, ptOK p = true) (i : Nat) : -8000000000000 ≤ areaT l i ∧ areaT l i ≤ 8000000000000 :=
  crossE_bd (hok _ (cornerP_mem h0 _)) (hok _ (cornerP_mem h0 _)) (hok _ (cornerP_mem h0 _))
theorem areaS_bd {l : List Pt} (h0 : 0 < l.length) (h40 : l.length ≤ 40) (hok : ∀ p ∈ l, ptOK p = true) {i : Nat} (hi : i ≤ 40) : -320000000000000 ≤ sumTo (areaT l) i ∧ sumTo (areaT l) i ≤ 320000000000000 := by
  have := sumTo_bd (areaT_bd h0 hok) i
  omega
theorem max_abs (n : Int) : max n (0 - n) = absE n := by unfold absE; split <;> omega
theorem c_Area (l : List Pt) : Contract Try.prog 44 [.sl (l.map encPt)] (.ret (.tup [.int .i64 (if polyE l = 0 then areaE l else 0), .int .i64 (polyE l)])) := by
  have hC := c_CheckPolygon l
  by_cases hz : polyE l = 0
  rotate_left
  · rw [if_neg hz]
    refine contract_of mix Try.func44 rfl rfl (by rw [Try.ntmps44]; exact Nat.le_of_ble_eq_true rfl) ?_; rw [Try.results44, Try.ntmps44]; simp only [argsE, Nat.reduceAdd]
    repeat' first
           | (with_reducible apply go_op)
           | (with_reducible apply go_next)
           | ((with_reducible (show evOp _ _ _ _ _ _)); first
             | ((with_reducible (show evOp _ (.move _) _ _ _ _)) ; first | ((with_reducible apply go_mv_int); rfl; rfl) | ((with_reducible apply go_mv_sl); rfl; rfl))
             | ((with_reducible apply go_as))
             | (((with_reducible apply go_cmp); rfl; rfl; rfl; rfl))
             | ((with_reducible (show evOp _ (.call _) _ _ _ _)) ; first | ((with_reducible apply go_len); rfl; rfl) | ((with_reducible apply go_fn_int); rfl; (exact hC); rfl)))
           | ((with_reducible (show evOps _ _ _ _ _ _)); first
             | (with_reducible apply go_nil))
           | ((with_reducible (show evG _ _ _ _ _)); first
             | (with_reducible apply go_seq)
             | (with_reducible apply go_region)
             | (((with_reducible apply go_cond); rfl) <;> (intro h; simp only [h]; try simp only [decide_eq_true_eq, decide_eq_false_iff_not, Bool.not_eq_true', Bool.not_eq_false', Bool.not_true, Bool.not_false] at h; try exact absurd trivial h))
             | (with_reducible apply go_ret)
             | (with_reducible apply go_skipc)
             | (with_reducible apply go_block))
           | (with_reducible apply go_kseq)
           | (with_reducible apply go_kseq_ret)
           | ((with_reducible apply end_t2); rfl; rfl; rfl; rfl)
    all_goals first | rfl | (exfalso; omega)
  obtain ⟨⟨h3, h40⟩, hok, -⟩ := poly_ok hz
  have h0 : 0 < l.length := by omega
  rw [hz] at hC ⊢
  rw [if_pos rfl]
  refine contract_of mix Try.func44 rfl rfl (by rw [Try.ntmps44]; exact Nat.le_of_ble_eq_true rfl) ?_; rw [Try.results44, Try.ntmps44]; simp only [argsE, Nat.reduceAdd]
  repeat' first
           | (with_reducible apply go_op)
           | (with_reducible apply go_next)
           | ((with_reducible (show evOp _ _ _ _ _ _)); first
             | ((with_reducible (show evOp _ (.move _) _ _ _ _)) ; first | ((with_reducible apply go_mv_int); rfl; rfl) | ((with_reducible apply go_mv_sl); rfl; rfl))
             | ((with_reducible apply go_as))
             | (((with_reducible apply go_cmp); rfl; rfl; rfl; rfl))
             | ((with_reducible (show evOp _ (.call _) _ _ _ _)) ; first | ((with_reducible apply go_len); rfl; rfl) | ((with_reducible apply go_fn_int); rfl; (exact hC); rfl)))
           | ((with_reducible (show evOps _ _ _ _ _ _)); first
             | (with_reducible apply go_nil))
           | ((with_reducible (show evG _ _ _ _ _)); first
             | (with_reducible apply go_seq)
             | (with_reducible apply go_region)
             | ((with_reducible apply go_cond_f); rfl; rfl)
             | (with_reducible apply go_skipc)
             | (with_reducible apply go_block))
           | (with_reducible apply go_kseq)
  all_goals try (exfalso; omega)
  refine go_count l.length (fun i => ⟨[(14, .int .i64 i), (13, .int .i64 l.length), (5, .int .i64 (sumTo (areaT l) i)), (0, .sl (l.map encPt))], [], 0, 36⟩) (fun i => True)
    (entails_eq (nx := 0) (k := 0) (ns := []) (ks := [14, 13, 5, 0]) [] rfl (by simp) (by kernel_rfl)) trivial ?_
  intro i hi hC
  have hs := areaS_bd h0 h40 hok (i := i) (by omega)
  have ht := areaT_bd h0 hok i
  by_cases h2 : i < l.length
  · have e0 : cornerP l 0 = l[0] := cornerP_lt h0
    have ei := cornerP_lt h2
    have k1 : Contract Try.prog 89 [.sl (l.map encPt), .int .i64 ((i : Int) + 1)] (.ret (.agg (encPt (cornerP l (i + 1))))) := c_corner l h0 (by omega) (i + 1)
    have x1 := c_cross l[0] l[i] (cornerP l (i + 1)) (hok _ (List.getElem_mem _)) (hok _ (List.getElem_mem _)) (hok _ (cornerP_mem h0 _))
    have et : areaT l i = crossE l[0] l[i] (cornerP l (i + 1)) := by rw [areaT, e0, ei]
    have en : sumTo (areaT l) (i + 1) = sumTo (areaT l) i + crossE l[0] l[i] (cornerP l (i + 1)) := by rw [← et]; rfl
    rw [et] at ht
    rw [en]
    generalize cornerP l (i + 1) = b at *
    repeat' first
           | (with_reducible apply go_op)
           | (with_reducible apply go_next)
           | ((with_reducible (show evOp _ _ _ _ _ _)); first
             | ((with_reducible (show evOp _ (.move _) _ _ _ _)) ; first | ((with_reducible apply go_mv_int); rfl; rfl) | ((with_reducible apply go_mv_sl); rfl; rfl))
             | ((with_reducible apply go_as))
             | (((with_reducible apply go_ld_ptr); rfl; rfl; rfl))
             | ((with_reducible (show evOp _ (.indexAddr _ _ _) _ _ _ _)) ; first | ((with_reducible apply go_index_nat); rfl; rfl; (with_reducible rfl); (intro; rfl); rfl; omega; (intro hlt)) | ((with_reducible apply go_index); rfl; rfl; (intro; rfl); rfl; omega; intro hlt))
             | ((with_reducible (show evOp _ (.binOp _ _ _ _ _) _ _ _ _)) ; first | ((with_reducible apply go_cmp); rfl; rfl; rfl; rfl) | ((with_reducible apply go_add); rfl; rfl; rfl; omega))
             | ((with_reducible (show evOp _ (.call _) _ _ _ _)) ; first | ((with_reducible apply go_max); rfl; rfl; rfl) | ((with_reducible apply go_fn_plain); rfl; (exact k1); rfl; (exact Nat.le_of_ble_eq_true rfl); rfl) | ((with_reducible apply go_fn_int); rfl; (exact x1); rfl))
             | (((with_reducible apply go_neg); rfl; rfl; omega)))
           | ((with_reducible (show evOps _ _ _ _ _ _)); first
             | (with_reducible apply go_nil)
             | (with_reducible apply go_take)
             | (with_reducible apply go_take0)
             | (with_reducible apply go_drop)
             | (with_reducible apply go_drop0))
           | ((with_reducible (show evG _ _ _ _ _)); first
             | (with_reducible apply go_seq)
             | (with_reducible apply go_region)
             | (((with_reducible apply go_cond); rfl) <;> (intro h; simp only [h]; try simp only [decide_eq_true_eq, decide_eq_false_iff_not, Bool.not_eq_true', Bool.not_eq_false', Bool.not_true, Bool.not_false] at h; try exact absurd trivial h))
             | ((with_reducible apply (go_drawM 14)); decide +kernel; rfl)
             | (with_reducible apply go_ret)
             | (with_reducible apply go_skipc)
             | (with_reducible apply go_block)
             | (with_reducible apply go_exit))
           | (with_reducible apply go_kseq)
           | (with_reducible apply go_kblock)
           | (with_reducible apply go_kblock_exit)
           | (with_reducible apply go_kdrop)
           | (with_reducible apply go_kseq_exit)
           | ((with_reducible apply end_t2); rfl; rfl; rfl; rfl)
    all_goals first
      | (exfalso; omega)
      | exact ⟨h2, trivial, entails_eq (nx := 0) (k := 0) (ns := []) (ks := [14, 13, 5, 0]) [] rfl (by simp) (by kernel_rfl)⟩
      | trace_state
  · have en : i = l.length := by omega
    subst en
    repeat' first
           | (with_reducible apply go_op)
           | (with_reducible apply go_next)
           | ((with_reducible (show evOp _ _ _ _ _ _)); first
             | ((with_reducible (show evOp _ (.move _) _ _ _ _)) ; first | ((with_reducible apply go_mv_int); rfl; rfl) | ((with_reducible apply go_mv_sl); rfl; rfl))
             | ((with_reducible apply go_as))
             | (((with_reducible apply go_ld_ptr); rfl; rfl; rfl))
             | ((with_reducible (show evOp _ (.indexAddr _ _ _) _ _ _ _)) ; first | ((with_reducible apply go_index_nat); rfl; rfl; (with_reducible rfl); (intro; rfl); rfl; omega; (intro hlt)) | ((with_reducible apply go_index); rfl; rfl; (intro; rfl); rfl; omega; intro hlt))
             | ((with_reducible (show evOp _ (.binOp _ _ _ _ _) _ _ _ _)) ; first | ((with_reducible apply go_cmp); rfl; rfl; rfl; rfl) | ((with_reducible apply go_add); rfl; rfl; rfl; omega))
             | (((with_reducible apply go_max); rfl; rfl; rfl))
             | (((with_reducible apply go_neg); rfl; rfl; omega)))
           | ((with_reducible (show evOps _ _ _ _ _ _)); first
             | (with_reducible apply go_nil)
             | (with_reducible apply go_take))
           | ((with_reducible (show evG _ _ _ _ _)); first
             | (with_reducible apply go_seq)
             | (with_reducible apply go_region)
             | (((with_reducible apply go_cond); rfl) <;> (intro h; simp only [h]; try simp only [decide_eq_true_eq, decide_eq_false_iff_not, Bool.not_eq_true', Bool.not_eq_false', Bool.not_true, Bool.not_false] at h; try exact absurd trivial h))
             | ((with_reducible apply (go_drawM 14)); decide +kernel; rfl)
             | (with_reducible apply go_ret)
             | (with_reducible apply go_skipc)
             | (with_reducible apply go_block)
             | (with_reducible apply go_exit))
           | (with_reducible apply go_kseq)
           | (with_reducible apply go_kblock_exit)
           | (with_reducible apply go_kseq_exit)
           | ((with_reducible apply end_t2); rfl; rfl; rfl; rfl)
    all_goals first
      | (exfalso; omega)
      | (rw [areaE, areaS, ← max_abs]; rfl)
      | trace_state
theorem c_rArea (l : List Pt) (hz : polyE l = 0) : Contract Try.prog 47 [.sl (l.map encPt)] (.ret (.int .i64 (areaE l))) := by
  obtain ⟨⟨h3, h40⟩, hok, -⟩ := poly_ok hz
  have h0 : 0 < l.length := by omega
  refine contract_of mix Try.func47 rfl rfl (by rw [Try.ntmps47]; exact Nat.le_of_ble_eq_true rfl) ?_; rw [Try.results47, Try.ntmps47]; simp only [argsE, Nat.reduceAdd]
  repeat' first
           | (with_reducible apply go_op)
           | (with_reducible apply go_next)
           | ((with_reducible (show evOp _ _ _ _ _ _)); first
             | (((with_reducible apply go_mv_int); rfl; rfl))
             | ((with_reducible apply go_as)))
           | ((with_reducible (show evOps _ _ _ _ _ _)); first
             | (with_reducible apply go_nil))
           | ((with_reducible (show evG _ _ _ _ _)); first
             | (with_reducible apply go_seq)
             | (with_reducible apply go_region)
             | (with_reducible apply go_block))
           | (with_reducible apply go_kseq)
  refine go_count l.length (fun i => ⟨[(4, .int .i64 i), (3, .int .i64 (sumTo (areaT l) i)), (0, .sl (l.map encPt))], [], 0, 26⟩) (fun i => True)
    (entails_eq (nx := 0) (k := 0) (ns := []) (ks := [4, 3, 0]) [] rfl (by simp) (by kernel_rfl)) trivial ?_
  intro i hi hC
  have hs := areaS_bd h0 h40 hok (i := i) (by omega)
  have ht := areaT_bd h0 hok i
  by_cases h2 : i < l.length
  · have e0 : cornerP l 0 = l[0] := cornerP_lt h0
    have k0 := c_rcorner l h0 (by omega) i
    have k1 : Contract Try.prog 90 [.sl (l.map encPt), .int .i64 ((i : Int) + 1)] (.ret (.agg (encPt (cornerP l (i + 1))))) := c_rcorner l h0 (by omega) (i + 1)
    have x1 := c_rcross l[0] (cornerP l i) (cornerP l (i + 1)) (hok _ (List.getElem_mem _)) (hok _ (cornerP_mem h0 _)) (hok _ (cornerP_mem h0 _))
    have et : areaT l i = crossE l[0] (cornerP l i) (cornerP l (i + 1)) := by rw [areaT, e0]
    have en : sumTo (areaT l) (i + 1) = sumTo (areaT l) i + crossE l[0] (cornerP l i) (cornerP l (i + 1)) := by rw [← et]; rfl
    rw [et] at ht
    rw [en]
    generalize cornerP l (i + 1) = b at *
    generalize cornerP l i = a at *
    repeat' first
           | (with_reducible apply go_op)
           | (with_reducible apply go_next)
           | ((with_reducible (show evOp _ _ _ _ _ _)); first
             | ((with_reducible (show evOp _ (.move _) _ _ _ _)) ; first | ((with_reducible apply go_mv_int); rfl; rfl) | ((with_reducible apply go_mv_sl); rfl; rfl))
             | ((with_reducible apply go_as))
             | (((with_reducible apply go_ld_ptr); rfl; rfl; rfl))
             | (((with_reducible apply go_index); rfl; rfl; (intro; rfl); rfl; omega; intro hlt))
             | ((with_reducible (show evOp _ (.binOp _ _ _ _ _) _ _ _ _)) ; first | ((with_reducible apply go_cmp); rfl; rfl; rfl; rfl) | ((with_reducible apply go_add); rfl; rfl; rfl; omega))
             | ((with_reducible (show evOp _ (.call _) _ _ _ _)) ; first | ((with_reducible apply go_len); rfl; rfl) | ((with_reducible apply go_fn_plain); rfl; (exact k0); rfl; (exact Nat.le_of_ble_eq_true rfl); rfl) | ((with_reducible apply go_fn_plain); rfl; (exact k1); rfl; (exact Nat.le_of_ble_eq_true rfl); rfl) | ((with_reducible apply go_fn_int); rfl; (exact x1); rfl)))
           | ((with_reducible (show evOps _ _ _ _ _ _)); first
             | (with_reducible apply go_nil)
             | (with_reducible apply go_take)
             | (with_reducible apply go_take0)
             | (with_reducible apply go_drop)
             | (with_reducible apply go_drop0))
           | ((with_reducible (show evG _ _ _ _ _)); first
             | (with_reducible apply go_seq)
             | (with_reducible apply go_region)
             | (((with_reducible apply go_cond); rfl) <;> (intro h; simp only [h]; try simp only [decide_eq_true_eq, decide_eq_false_iff_not, Bool.not_eq_true', Bool.not_eq_false', Bool.not_true, Bool.not_false] at h; try exact absurd trivial h))
             | ((with_reducible apply (go_drawM 13)); decide +kernel; rfl)
             | (with_reducible apply go_skipc)
             | (with_reducible apply go_block)
             | (with_reducible apply go_exit))
           | (with_reducible apply go_kseq)
           | (with_reducible apply go_kblock)
           | (with_reducible apply go_kblock_exit)
           | (with_reducible apply go_kdrop)
           | (with_reducible apply go_kseq_exit)
    all_goals first
      | (exfalso; omega)
      | exact ⟨h2, trivial, entails_eq (nx := 0) (k := 0) (ns := []) (ks := [4, 3, 0]) [] rfl (by simp) (by kernel_rfl)⟩
      | trace_state
  · have en : i = l.length := by omega
    subst en
    have ha := c_abs (sumTo (areaT l) l.length) (by omega) (by omega)
    repeat' first
           | (with_reducible apply go_op)
           | (with_reducible apply go_next)
           | ((with_reducible (show evOp _ _ _ _ _ _)); first
             | ((with_reducible (show evOp _ (.move _) _ _ _ _)) ; first | ((with_reducible apply go_mv_int); rfl; rfl) | ((with_reducible apply go_mv_sl); rfl; rfl))
             | ((with_reducible apply go_as))
             | (((with_reducible apply go_ld_ptr); rfl; rfl; rfl))
             | (((with_reducible apply go_index); rfl; rfl; (intro; rfl); rfl; omega; intro hlt))
             | (((with_reducible apply go_cmp); rfl; rfl; rfl; rfl))
             | ((with_reducible (show evOp _ (.call _) _ _ _ _)) ; first | ((with_reducible apply go_len); rfl; rfl) | ((with_reducible apply go_fn_int); rfl; (exact ha); rfl)))
           | ((with_reducible (show evOps _ _ _ _ _ _)); first
             | (with_reducible apply go_nil)
             | (with_reducible apply go_take))
           | ((with_reducible (show evG _ _ _ _ _)); first
             | (with_reducible apply go_seq)
             | (with_reducible apply go_region)
             | (((with_reducible apply go_cond); rfl) <;> (intro h; simp only [h]; try simp only [decide_eq_true_eq, decide_eq_false_iff_not, Bool.not_eq_true', Bool.not_eq_false', Bool.not_true, Bool.not_false] at h; try exact absurd trivial h))
             | ((with_reducible apply (go_drawM 13)); decide +kernel; rfl)
             | (with_reducible apply go_ret)
             | (with_reducible apply go_skipc)
             | (with_reducible apply go_block)
             | (with_reducible apply go_exit))
           | (with_reducible apply go_kseq)
           | (with_reducible apply go_kblock_exit)
           | (with_reducible apply go_kseq_exit)
           | ((with_reducible apply end_int); rfl)
    all_goals first
      | (exfalso; omega)
      | rfl
      | trace_state
end Go.Pv.Geo

namespace Go.Pv.Geo
/- Polygons, turned over and begun elsewhere: plain. -/
theorem sumTo_congr {f g : Nat → Int} : ∀ {n : Nat}, (∀ i, i < n → f i = g i) → sumTo f n = sumTo g n
  | 0, _ => rfl
  | n + 1, h => by simp only [sumTo]; rw [sumTo_congr fun i hi => h i (by omega), h n (by omega)]
theorem sumTo_front (f : Nat → Int) : ∀ n : Nat, sumTo f (n + 1) = f 0 + sumTo (fun i => f (i + 1)) n
  | 0 => by simp [sumTo]
  | n + 1 => by
    have ih := sumTo_front f n
    rw [sumTo, ih]
    simp only [sumTo]
    omega
theorem sumTo_rev (f : Nat → Int) : ∀ n : Nat, sumTo (fun j => f (n - 1 - j)) n = sumTo f n
  | 0 => rfl
  | n + 1 => by
    rw [sumTo_front, sumTo]
    have : sumTo (fun i => f (n + 1 - 1 - (i + 1))) n = sumTo (fun j => f (n - 1 - j)) n := sumTo_congr fun i hi => by rw [show n + 1 - 1 - (i + 1) = n - 1 - i by omega]
    rw [this, sumTo_rev f n]
    simp only [Nat.add_sub_cancel, Nat.sub_zero]
    omega
theorem sumTo_step (g : Nat → Int) (n : Nat) : sumTo (fun i => g (i + 1)) n = sumTo g n - g 0 + g n := by
  have := sumTo_front g n
  simp only [sumTo] at this
  omega
theorem sumTo_shift {f : Nat → Int} {n : Nat} (h : ∀ i, f (i + n) = f i) : ∀ s : Nat, sumTo (fun i => f (i + s)) n = sumTo f n
  | 0 => rfl
  | s + 1 => by
    have ih := sumTo_shift h s
    have := sumTo_step (fun i => f (i + s)) n
    have e : sumTo (fun i => f (i + (s + 1))) n = sumTo (fun i => f (i + 1 + s)) n := sumTo_congr fun i _ => by rw [show i + (s + 1) = i + 1 + s by omega]
    rw [e, this, ih]
    have := h s
    rw [Nat.add_comm n s, this, Nat.zero_add]
    omega
theorem sumTo_neg (f : Nat → Int) : ∀ n : Nat, sumTo (fun i => -f i) n = -sumTo f n
  | 0 => rfl
  | n + 1 => by simp only [sumTo]; rw [sumTo_neg f n]; omega
theorem sumTo_sub (f g : Nat → Int) : ∀ n : Nat, sumTo (fun i => f i - g i) n = sumTo f n - sumTo g n
  | 0 => rfl
  | n + 1 => by simp only [sumTo]; rw [sumTo_sub f g n]; omega

theorem corner_mod {l : List Pt} {i j : Nat} (h : i % l.length = j % l.length) : cornerP l i = cornerP l j := by unfold cornerP; rw [h]
theorem corner_per (l : List Pt) (i : Nat) : cornerP l (i + l.length) = cornerP l i := corner_mod (by simp)
/-- The corners the other way round, from another one on. -/
def turnL (l : List Pt) (k : Nat) : List Pt := (List.range l.length).map fun j => cornerP l (l.length - 1 - j + k)
theorem turn_len (l : List Pt) (k : Nat) : (turnL l k).length = l.length := by simp [turnL]
def mT (l : List Pt) (k j : Nat) : Nat := l.length - 1 - j % l.length + k
theorem corner_turn {l : List Pt} (h0 : 0 < l.length) (k j : Nat) : cornerP (turnL l k) j = cornerP l (mT l k j) := by
  rw [cornerP_get (by rw [turn_len]; exact h0)]
  simp [turnL, mT]
theorem mod_lt' {n : Nat} (h0 : 0 < n) (j : Nat) : (j + 1) % n = if j % n + 1 = n then 0 else j % n + 1 := by
  have h := Nat.mod_lt j h0
  rw [Nat.add_mod]
  split
  · rename_i e
    rcases Nat.lt_or_ge 1 n with h1 | h1
    · rw [Nat.mod_eq_of_lt h1, e, Nat.mod_self]
    · have : n = 1 := by omega
      subst this; simp [Nat.mod_one]
  · rename_i e
    rw [Nat.mod_eq_of_lt (show 1 < n by omega), Nat.mod_eq_of_lt (by omega)]
theorem mT_step {l : List Pt} (h0 : 0 < l.length) (k j : Nat) : mT l k (j + 1) % l.length = (mT l k j + l.length - 1) % l.length := by
  have h := Nat.mod_lt j h0
  unfold mT
  rw [mod_lt' h0]
  split
  · rename_i e
    rw [show l.length - 1 - 0 + k = l.length - 1 - j % l.length + k + l.length - 1 by omega]
  · rename_i e
    rw [show l.length - 1 - j % l.length + k + l.length - 1 = (l.length - 1 - (j % l.length + 1) + k) + l.length by omega, Nat.add_mod_right]
theorem corner_turn1 {l : List Pt} (h0 : 0 < l.length) (k j : Nat) : cornerP (turnL l k) (j + 1) = cornerP l (mT l k j + l.length - 1) := by
  rw [corner_turn h0]; exact corner_mod (mT_step h0 k j)
theorem corner_turn2 {l : List Pt} (h0 : 2 ≤ l.length) (k j : Nat) : cornerP (turnL l k) (j + 2) = cornerP l (mT l k j + l.length - 2) := by
  rw [corner_turn (by omega)]
  refine corner_mod ?_
  rw [mT_step (by omega) k (j + 1)]
  have := mT_step (l := l) (by omega) k j
  have e1 : mT l k (j + 1) + l.length - 1 = mT l k (j + 1) + (l.length - 1) := by omega
  rw [e1, Nat.add_mod, this, ← Nat.add_mod]
  have e2 : mT l k j + l.length - 1 + (l.length - 1) = mT l k j + l.length - 2 + l.length := by omega
  rw [e2, Nat.add_mod_right]

theorem on_swap' (a b p : Pt) : onE b a p = onE a b p := by
  have h : crossE b a p = -crossE a b p := by simp only [crossE]; grind
  rw [Bool.eq_iff_iff]
  simp only [onE, decide_eq_true_eq, h]
  omega
theorem sgn_neg (n : Int) : signE (-n) = -signE n := by unfold signE; (repeat' split) <;> omega
theorem meet_rev (a b c d : Pt) : meetE b a d c = meetE a b c d := by
  have h1 : crossE b a d = -crossE a b d := by simp only [crossE]; grind
  have h2 : crossE b a c = -crossE a b c := by simp only [crossE]; grind
  have h3 : crossE d c b = -crossE c d b := by simp only [crossE]; grind
  have h4 : crossE d c a = -crossE c d a := by simp only [crossE]; grind
  unfold meetE
  rw [on_swap' a b, on_swap' a b, on_swap' c d, on_swap' c d, h1, h2, h3, h4, sgn_neg, sgn_neg, sgn_neg, sgn_neg, Int.neg_mul_neg, Int.neg_mul_neg, Int.mul_comm (signE (crossE a b d)), Int.mul_comm (signE (crossE c d b))]
  cases onE a b c <;> cases onE a b d <;> cases onE c d a <;> cases onE c d b <;> simp
theorem meet_comm (a b c d : Pt) : meetE c d a b = meetE a b c d := by
  unfold meetE
  cases onE a b c <;> cases onE a b d <;> cases onE c d a <;> cases onE c d b <;> simp [Bool.and_comm]
theorem simple_inv {l : List Pt} (h : simpleE l = true) : (∀ i, i < l.length → turnBad l i = false) ∧ ∀ i, i < l.length → ∀ k, k < l.length → i + 2 ≤ k → pairBad l i k = false := by
  rw [simpleE, List.all_eq_true] at h
  refine ⟨fun i hi => ?_, fun i hi k hk hik => ?_⟩
  · have := h i (List.mem_range.2 hi)
    simp only [Bool.and_eq_true, Bool.not_eq_true'] at this
    exact this.1
  · have := h i (List.mem_range.2 hi)
    simp only [Bool.and_eq_true, List.all_eq_true] at this
    have := this.2 k (List.mem_range.2 hk)
    simpa [hik] using this
theorem meet_any {l : List Pt} (h0 : 0 < l.length) (h : simpleE l = true) (i k : Nat) (h1 : i % l.length ≠ k % l.length) (h2 : (i + 1) % l.length ≠ k % l.length) (h3 : (k + 1) % l.length ≠ i % l.length) :
    meetE (cornerP l i) (cornerP l (i + 1)) (cornerP l k) (cornerP l (k + 1)) = false := by
  have key : ∀ i k : Nat, i < l.length → k < l.length → i < k → (i + 1) % l.length ≠ k → (k + 1) % l.length ≠ i → meetE (cornerP l i) (cornerP l (i + 1)) (cornerP l k) (cornerP l (k + 1)) = false := by
    intro i k hi hk hik h2 h3
    have hik2 : i + 2 ≤ k := by
      rcases Nat.lt_or_ge (i + 1) k with h | h
      · omega
      · have : k = i + 1 := by omega
        subst this
        rw [Nat.mod_eq_of_lt hk] at h2
        exact (h2 rfl).elim
    have := (simple_inv h).2 i hi k hk hik2
    simp only [pairBad] at this
    rw [decide_eq_true h3, Bool.true_and] at this
    exact this
  have hi := Nat.mod_lt i h0
  have hk := Nat.mod_lt k h0
  have e1 : cornerP l i = cornerP l (i % l.length) := corner_mod (by rw [Nat.mod_mod])
  have e2 : cornerP l k = cornerP l (k % l.length) := corner_mod (by rw [Nat.mod_mod])
  have f1 : (i % l.length + 1) % l.length = (i + 1) % l.length := by rw [Nat.add_mod, Nat.mod_mod, ← Nat.add_mod]
  have f2 : (k % l.length + 1) % l.length = (k + 1) % l.length := by rw [Nat.add_mod, Nat.mod_mod, ← Nat.add_mod]
  have e3 : cornerP l (i + 1) = cornerP l (i % l.length + 1) := corner_mod f1.symm
  have e4 : cornerP l (k + 1) = cornerP l (k % l.length + 1) := corner_mod f2.symm
  rw [e1, e2, e3, e4]
  rcases Nat.lt_or_ge (i % l.length) (k % l.length) with hlt | hge
  · exact key _ _ hi hk hlt (by rw [f1]; exact h2) (by rw [f2]; exact h3)
  · rw [meet_comm]
    exact key _ _ hk hi (by omega) (by rw [f2]; exact h3) (by rw [f1]; exact h2)
theorem mod_ne {n m d : Nat} (h : 0 < d) (h' : d < n) : (m + d) % n ≠ m % n := by
  intro e
  have := Nat.sub_mod_eq_zero_of_mod_eq e
  rw [Nat.add_sub_cancel_left, Nat.mod_eq_of_lt h'] at this
  omega
theorem turn_mod {l : List Pt} {i j : Nat} (h : i % l.length = j % l.length) : turnBad l i = turnBad l j := by
  have h1 : (i + 1) % l.length = (j + 1) % l.length := by rw [Nat.add_mod, h, ← Nat.add_mod]
  have h2 : (i + 2) % l.length = (j + 2) % l.length := by rw [Nat.add_mod, h, ← Nat.add_mod]
  unfold turnBad
  rw [corner_mod h, corner_mod h1, corner_mod h2]
theorem turn_any {l : List Pt} (h0 : 0 < l.length) (h : simpleE l = true) (i : Nat) : turnBad l i = false := by
  rw [turn_mod (show i % l.length = (i % l.length) % l.length by rw [Nat.mod_mod])]
  exact (simple_inv h).1 _ (Nat.mod_lt _ h0)
theorem ptEq_comm (a b : Pt) : ptEq a b = ptEq b a := by
  rw [Bool.eq_iff_iff, ptEq_iff, ptEq_iff]; exact eq_comm

theorem simple_turned {l : List Pt} (h3 : 3 ≤ l.length) (h : simpleE l = true) (k : Nat) : simpleE (turnL l k) = true := by
  have h0 : 0 < l.length := by omega
  refine simple_yes (fun j hj => ?_) fun i hi j hj hij => ?_
  · rw [turn_len] at hj
    unfold turnBad
    rw [corner_turn h0, corner_turn1 h0, corner_turn2 (by omega)]
    have t1 := turn_any h0 h (mT l k j + l.length - 2)
    have t2 := turn_any h0 h (mT l k j + l.length - 1)
    unfold turnBad at t1 t2
    rw [show mT l k j + l.length - 2 + 1 = mT l k j + l.length - 1 by omega, show mT l k j + l.length - 2 + 2 = mT l k j + l.length by omega, corner_per] at t1
    rw [show mT l k j + l.length - 1 + 1 = mT l k j + l.length by omega, corner_per] at t2
    simp only [Bool.or_eq_false_iff] at t1 t2 ⊢
    refine ⟨⟨?_, ?_⟩, ?_⟩
    · rw [ptEq_comm]; exact t2.1.1
    · rw [on_swap']; exact t1.2
    · rw [on_swap']; exact t1.1.2
  · rw [turn_len] at hi hj
    unfold pairBad
    rw [turn_len, corner_turn h0, corner_turn1 h0, corner_turn h0, corner_turn1 h0]
    by_cases hc : (j + 1) % l.length = i
    · simp [hc]
    · rw [decide_eq_true hc, Bool.true_and]
      have e1 : mT l k i = l.length - 1 - i + k := by unfold mT; rw [Nat.mod_eq_of_lt hi]
      have e2 : mT l k j = l.length - 1 - j + k := by unfold mT; rw [Nat.mod_eq_of_lt hj]
      have hd : j - i ≤ l.length - 2 := by
        rcases Nat.lt_or_ge (j + 1) l.length with hlt | hge
        · omega
        · have : j + 1 = l.length := by omega
          rw [this, Nat.mod_self] at hc
          omega
      have hm := meet_any h0 h (mT l k i + l.length - 1) (mT l k j + l.length - 1) ?_ ?_ ?_
      · rw [show mT l k i + l.length - 1 + 1 = mT l k i + l.length by omega, show mT l k j + l.length - 1 + 1 = mT l k j + l.length by omega, corner_per, corner_per] at hm
        rw [← meet_rev]; exact hm
      · rw [show mT l k i + l.length - 1 = mT l k j + l.length - 1 + (j - i) by omega]
        exact mod_ne (by omega) (by omega)
      · rw [show mT l k i + l.length - 1 + 1 = mT l k j + l.length - 1 + (j - i + 1) by omega]
        exact mod_ne (by omega) (by omega)
      · rw [show mT l k i + l.length - 1 = mT l k j + l.length - 1 + 1 + (j - i - 1) by omega]
        exact (mod_ne (by omega) (by omega)).symm

def wE (p q : Pt) : Int := p.x * q.y - p.y * q.x
theorem cross_w (o a b : Pt) : crossE o a b = wE a b - (wE o b - wE o a) := by simp only [crossE, wE]; grind
theorem area_w {l : List Pt} : areaS l = sumTo (fun i => wE (cornerP l i) (cornerP l (i + 1))) l.length := by
  have e : areaS l = sumTo (fun i => wE (cornerP l i) (cornerP l (i + 1)) - (wE (cornerP l 0) (cornerP l (i + 1)) - wE (cornerP l 0) (cornerP l i))) l.length :=
    sumTo_congr fun i _ => cross_w _ _ _
  rw [e, sumTo_sub, sumTo_sub, sumTo_step (fun i => wE (cornerP l 0) (cornerP l i))]
  have : cornerP l l.length = cornerP l 0 := by have := corner_per l 0; rwa [Nat.zero_add] at this
  rw [this]
  omega
theorem w_swap (p q : Pt) : wE p q = -wE q p := by simp only [wE]; grind
theorem area_turned {l : List Pt} (h3 : 3 ≤ l.length) (k : Nat) : areaS (turnL l k) = -areaS l := by
  have h0 : 0 < l.length := by omega
  rw [area_w, area_w, turn_len]
  let W : Nat → Int := fun i => wE (cornerP l i) (cornerP l (i + 1))
  have hper : ∀ i, W (i + l.length) = W i := fun i => by
    simp only [W]
    rw [corner_per, show i + l.length + 1 = (i + 1) + l.length by omega, corner_per]
  have e : sumTo (fun j => wE (cornerP (turnL l k) j) (cornerP (turnL l k) (j + 1))) l.length = sumTo (fun j => -(fun t => W (t + (l.length - 1 + k))) (l.length - 1 - j)) l.length := by
    refine sumTo_congr fun j hj => ?_
    rw [corner_turn h0, corner_turn1 h0, w_swap]
    have e1 : mT l k j = l.length - 1 - j + k := by unfold mT; rw [Nat.mod_eq_of_lt hj]
    simp only [W]
    rw [show l.length - 1 - j + (l.length - 1 + k) = mT l k j + l.length - 1 by omega, show mT l k j + l.length - 1 + 1 = mT l k j + l.length by omega, corner_per]
  rw [e, sumTo_neg, sumTo_rev (fun t => W (t + (l.length - 1 + k))), sumTo_shift hper]
theorem poly_turned {l : List Pt} (h : polyE l = 0) (k : Nat) : polyE (turnL l k) = 0 ∧ areaE (turnL l k) = areaE l := by
  obtain ⟨⟨h3, h40⟩, hok, hs⟩ := poly_ok h
  refine ⟨?_, ?_⟩
  · unfold polyE
    rw [turn_len, if_neg (by omega), if_neg (by omega), if_neg, if_pos (simple_turned h3 hs k)]
    simp only [List.any_eq_true, not_exists, not_and]
    intro p hp
    obtain ⟨j, hj, rfl⟩ := List.mem_map.1 hp
    rw [hok _ (cornerP_mem (by omega) _)]; simp
  · unfold areaE
    rw [area_turned h3]
    unfold absE; (repeat' split) <;> omega
end Go.Pv.Geo

namespace Go.Pv.Geo
/- The parity of the edges to the right of a point is that of the edges above it: plain. -/
/-- Is an edge met by the ray to the right; above? -/
def rightX (a b p : Pt) : Bool :=
  let u := if b.y < a.y then b else a
  let v := if b.y < a.y then a else b
  decide ((u.y ≤ p.y ∧ p.y < v.y) ∧ 0 < crossE u v p)
def upX (a b p : Pt) : Bool := decide (¬ (a.x ≤ p.x ↔ b.x ≤ p.x) ∧ (crossE a b p < 0 ↔ a.x < b.x))
theorem xor_dec {A B : Prop} [Decidable A] [Decidable B] : (decide A ^^ decide B) = decide (¬ (A ↔ B)) := by
  by_cases h : A <;> by_cases h' : B <;> simp [h, h']
def quad (a p : Pt) : Bool := decide (p.x < a.x ∧ p.y < a.y)
theorem sg {u v : Int} : (¬0 < u ∨ ¬0 < v ∨ 0 < u * v) ∧ (¬u < 0 ∨ ¬0 < v ∨ u * v < 0) ∧ (¬0 < u ∨ ¬v < 0 ∨ u * v < 0) ∧ (¬u < 0 ∨ ¬v < 0 ∨ 0 < u * v) ∧ (¬u = 0 ∨ u * v = 0) ∧ (¬v = 0 ∨ u * v = 0) := by
  refine ⟨?_, ?_, ?_, ?_, ?_, ?_⟩
  · by_cases h : 0 < u <;> by_cases h' : 0 < v <;> simp [h, h']
    exact Int.mul_pos h h'
  · by_cases h : u < 0 <;> by_cases h' : 0 < v <;> simp [h, h']
    exact Int.mul_neg_of_neg_of_pos h h'
  · by_cases h : 0 < u <;> by_cases h' : v < 0 <;> simp [h, h']
    exact Int.mul_neg_of_pos_of_neg h h'
  · by_cases h : u < 0 <;> by_cases h' : v < 0 <;> simp [h, h']
    exact Int.mul_pos_of_neg_of_neg h h'
  · by_cases h : u = 0
    · right; rw [h, Int.zero_mul]
    · left; exact h
  · by_cases h : v = 0
    · right; rw [h, Int.mul_zero]
    · left; exact h
theorem sign_lt {n : Int} : signE n < 0 ↔ n < 0 := by unfold signE; (repeat' split) <;> omega
theorem cross_rel (a b p : Pt) : crossE a b p = (a.x - p.x) * (b.y - p.y) - (a.y - p.y) * (b.x - p.x) := by simp only [crossE]; grind
theorem edge_pos {x1 y1 x2 y2 P Q : Int} (hy : ¬ y2 < y1)
    (s1 : (¬0 < x1 ∨ ¬0 < y2 ∨ 0 < P) ∧ (¬x1 < 0 ∨ ¬0 < y2 ∨ P < 0) ∧ (¬0 < x1 ∨ ¬y2 < 0 ∨ P < 0) ∧ (¬x1 < 0 ∨ ¬y2 < 0 ∨ 0 < P) ∧ (¬x1 = 0 ∨ P = 0) ∧ (¬y2 = 0 ∨ P = 0))
    (s2 : (¬0 < y1 ∨ ¬0 < x2 ∨ 0 < Q) ∧ (¬y1 < 0 ∨ ¬0 < x2 ∨ Q < 0) ∧ (¬0 < y1 ∨ ¬x2 < 0 ∨ Q < 0) ∧ (¬y1 < 0 ∨ ¬x2 < 0 ∨ 0 < Q) ∧ (¬y1 = 0 ∨ Q = 0) ∧ (¬x2 = 0 ∨ Q = 0))
    (h : ¬ (P - Q = 0 ∧ (min x1 x2 ≤ 0 ∧ 0 ≤ max x1 x2) ∧ min y1 y2 ≤ 0 ∧ 0 ≤ max y1 y2)) :
    (¬ ((¬ (x1 ≤ 0 ↔ x2 ≤ 0) ∧ (P - Q < 0 ↔ x1 < x2)) ↔ ((y1 ≤ 0 ∧ 0 < y2) ∧ 0 < P - Q))) ↔ ¬ ((0 < x1 ∧ 0 < y1) ↔ (0 < x2 ∧ 0 < y2)) := by
  by_cases c1 : x1 ≤ 0 <;> by_cases c2 : x2 ≤ 0 <;> by_cases c3 : y1 ≤ 0 <;> by_cases c4 : y2 ≤ 0 <;> simp only [c1, c2, c3, c4, true_and, and_true, false_and, and_false, iff_true, true_iff, iff_false, false_iff, not_true_eq_false, not_false_eq_true] <;> omega
theorem edge_neg {x1 y1 x2 y2 P Q : Int} (hy : y2 < y1)
    (s1 : (¬0 < x1 ∨ ¬0 < y2 ∨ 0 < P) ∧ (¬x1 < 0 ∨ ¬0 < y2 ∨ P < 0) ∧ (¬0 < x1 ∨ ¬y2 < 0 ∨ P < 0) ∧ (¬x1 < 0 ∨ ¬y2 < 0 ∨ 0 < P) ∧ (¬x1 = 0 ∨ P = 0) ∧ (¬y2 = 0 ∨ P = 0))
    (s2 : (¬0 < y1 ∨ ¬0 < x2 ∨ 0 < Q) ∧ (¬y1 < 0 ∨ ¬0 < x2 ∨ Q < 0) ∧ (¬0 < y1 ∨ ¬x2 < 0 ∨ Q < 0) ∧ (¬y1 < 0 ∨ ¬x2 < 0 ∨ 0 < Q) ∧ (¬y1 = 0 ∨ Q = 0) ∧ (¬x2 = 0 ∨ Q = 0))
    (h : ¬ (P - Q = 0 ∧ (min x1 x2 ≤ 0 ∧ 0 ≤ max x1 x2) ∧ min y1 y2 ≤ 0 ∧ 0 ≤ max y1 y2)) :
    (¬ ((¬ (x1 ≤ 0 ↔ x2 ≤ 0) ∧ (P - Q < 0 ↔ x1 < x2)) ↔ ((y2 ≤ 0 ∧ 0 < y1) ∧ 0 < -(P - Q)))) ↔ ¬ ((0 < x1 ∧ 0 < y1) ↔ (0 < x2 ∧ 0 < y2)) := by
  by_cases c1 : x1 ≤ 0 <;> by_cases c2 : x2 ≤ 0 <;> by_cases c3 : y1 ≤ 0 <;> by_cases c4 : y2 ≤ 0 <;> simp only [c1, c2, c3, c4, true_and, and_true, false_and, and_false, iff_true, true_iff, iff_false, false_iff, not_true_eq_false, not_false_eq_true] <;> omega
theorem le0 {u v : Int} : u - v ≤ 0 ↔ u ≤ v := by omega
theorem lt0 {u v : Int} : 0 < u - v ↔ v < u := by omega
theorem ltd {u v w : Int} : u - w < v - w ↔ u < v := by omega
theorem edge_par {a b p : Pt} (h : onE a b p = false) : (upX a b p ^^ rightX a b p) = (quad a p ^^ quad b p) := by
  rw [onE, decide_eq_false_iff_not] at h
  have e1 := cross_rel a b p
  have e2 : crossE b a p = -crossE a b p := by simp only [crossE]; grind
  have s1 := sg (u := a.x - p.x) (v := b.y - p.y)
  have s2 := sg (u := a.y - p.y) (v := b.x - p.x)
  unfold upX rightX quad
  simp only [xor_dec, e2]
  refine decide_eq_decide.2 ?_
  rw [e1] at h ⊢
  generalize (a.x - p.x) * (b.y - p.y) = P at *
  generalize (a.y - p.y) * (b.x - p.x) = Q at *
  by_cases hyy : b.y < a.y
  · have := edge_neg (x1 := a.x - p.x) (y1 := a.y - p.y) (x2 := b.x - p.x) (y2 := b.y - p.y) (P := P) (Q := Q) (by omega) s1 s2 (by omega)
    simp only [if_pos hyy, e2, e1]
    simp only [le0, lt0, ltd] at this
    exact this
  · have := edge_pos (x1 := a.x - p.x) (y1 := a.y - p.y) (x2 := b.x - p.x) (y2 := b.y - p.y) (P := P) (Q := Q) (by omega) s1 s2 (by omega)
    simp only [if_neg hyy, e1]
    simp only [le0, lt0, ltd] at this ⊢
    exact this

def parTo (f : Nat → Bool) : Nat → Bool
  | 0 => false
  | i + 1 => parTo f i ^^ f i
theorem parTo_xor (f g : Nat → Bool) : ∀ n : Nat, (parTo f n ^^ parTo g n) = parTo (fun i => f i ^^ g i) n
  | 0 => rfl
  | n + 1 => by
    simp only [parTo]
    rw [← parTo_xor f g n]
    cases parTo f n <;> cases parTo g n <;> cases f n <;> cases g n <;> rfl
theorem parTo_congr {f g : Nat → Bool} : ∀ {n : Nat}, (∀ i, i < n → f i = g i) → parTo f n = parTo g n
  | 0, _ => rfl
  | n + 1, h => by simp only [parTo]; rw [parTo_congr fun i hi => h i (by omega), h n (by omega)]
theorem parTo_tele (g : Nat → Bool) : ∀ n : Nat, parTo (fun i => g i ^^ g (i + 1)) n = (g 0 ^^ g n)
  | 0 => by simp [parTo]
  | n + 1 => by
    simp only [parTo]
    rw [parTo_tele g n]
    cases g 0 <;> cases g n <;> cases g (n + 1) <;> rfl
def onAny (l : List Pt) (p : Pt) : Bool := (List.range l.length).any fun i => onE (cornerP l i) (cornerP l (i + 1)) p
def oddR (l : List Pt) (p : Pt) (n : Nat) : Bool := parTo (fun i => rightX (cornerP l i) (cornerP l (i + 1)) p) n
def oddU (l : List Pt) (p : Pt) (n : Nat) : Bool := parTo (fun i => upX (cornerP l i) (cornerP l (i + 1)) p) n
theorem onAny_yes {l : List Pt} {p : Pt} {i : Nat} (hi : i < l.length) (h : onE (cornerP l i) (cornerP l (i + 1)) p = true) : onAny l p = true := List.any_eq_true.2 ⟨i, List.mem_range.2 hi, h⟩
theorem onAny_no {l : List Pt} {p : Pt} (h : ∀ i, i < l.length → onE (cornerP l i) (cornerP l (i + 1)) p = false) : onAny l p = false := by
  rw [onAny, List.any_eq_false]
  intro i hi
  rw [h i (List.mem_range.1 hi)]; simp
theorem odd_same {l : List Pt} {p : Pt} (h : onAny l p = false) : oddU l p l.length = oddR l p l.length := by
  have h' : ∀ i, i < l.length → onE (cornerP l i) (cornerP l (i + 1)) p = false := fun i hi => by
    rw [onAny, List.any_eq_false] at h
    simpa using h i (List.mem_range.2 hi)
  have : (oddU l p l.length ^^ oddR l p l.length) = false := by
    unfold oddU oddR
    rw [parTo_xor, parTo_congr (g := fun i => quad (cornerP l i) p ^^ quad (cornerP l (i + 1)) p) fun i hi => edge_par (h' i hi), parTo_tele (fun i => quad (cornerP l i) p)]
    have : cornerP l l.length = cornerP l 0 := by have := corner_per l 0; rwa [Nat.zero_add] at this
    rw [this]; simp
  revert this
  cases oddU l p l.length <;> cases oddR l p l.length <;> simp
/-- 1 inside of a polygon, 0 on its border, -1 outside. -/
def insE (l : List Pt) (p : Pt) : Int := if onAny l p = true then 0 else if oddR l p l.length = true then 1 else -1
end Go.Pv.Geo

set_option linter.unusedVariables false
set_option linter.unusedSimpArgs false
namespace Go.Pv.Geo
/-! The hull is a convex polygon: its turns, its simplicity, and its inside, plain. -/
theorem HullOf.edgeC {L H : List Pt} (h : HullOf L H) (i : Nat) : Edge L (cornerP H i) (cornerP H (i + 1)) := by
  have h0 : 0 < H.length := by have := h.len; omega
  have hi := Nat.mod_lt i h0
  have := h.edge (i % H.length) hi
  rw [cornerP_get h0, cornerP_get h0]
  have e : (i % H.length + 1) % H.length = (i + 1) % H.length := by simp [Nat.add_mod]
  simpa only [e] using this
theorem HullOf.inj {L H : List Pt} (h : HullOf L H) {i j : Nat} (e : cornerP H i = cornerP H j) : i % H.length = j % H.length := by
  have h0 : 0 < H.length := by have := h.len; omega
  rw [cornerP_get h0, cornerP_get h0] at e
  exact (List.getElem_inj h.nodup).1 e
theorem HullOf.memC {L H : List Pt} (h : HullOf L H) (i : Nat) : cornerP H i ∈ L := by
  have h0 : 0 < H.length := by have := h.len; omega
  exact h.mem _ (cornerP_mem h0 i)
/-- A corner is on no edge but its own two. -/
theorem HullOf.strict {L H : List Pt} (h : HullOf L H) {i j : Nat} (h1 : i % H.length ≠ j % H.length) (h2 : (i + 1) % H.length ≠ j % H.length) : 0 < crossE (cornerP H i) (cornerP H (i + 1)) (cornerP H j) := by
  have h0 : 0 < H.length := by have := h.len; omega
  have e := h.edgeC i
  have hj := h.memC j
  have hle := e.left _ hj
  have n1 : cornerP H j ≠ cornerP H i := fun e => h1 (h.inj e).symm
  have n2 : cornerP H j ≠ cornerP H (i + 1) := fun e => h2 (h.inj e).symm
  by_cases hz : crossE (cornerP H i) (cornerP H (i + 1)) (cornerP H j) = 0
  · exfalso
    have hb := e.btw _ hj hz
    -- the edge that leads to the corner j
    have e' := h.edgeC (j + H.length - 1)
    have ej : cornerP H (j + H.length - 1 + 1) = cornerP H j := by
      rw [show j + H.length - 1 + 1 = j + H.length by omega]; exact corner_per H j
    rw [ej] at e'
    generalize cornerP H (j + H.length - 1) = d at *
    have ma := h.memC i
    have mb := h.memC (i + 1)
    generalize cornerP H i = a at *
    generalize cornerP H (i + 1) = b at *
    generalize cornerP H j = c at *
    have l1 := e'.left a ma
    have l2 := e'.left b mb
    have p := plucker 1 c a b d
    have q1 : crossE c b d = crossE d c b := (cross_rot d c b).symm
    have q2 : crossE c a d = crossE d c a := (cross_rot d c a).symm
    have q3 : crossE c a b = crossE a b c := cross_rot c a b
    rw [q1, q2, q3, hz] at p
    have p' : (key a - key c) * crossE d c b = (key b - key c) * crossE d c a := by unfold tau at p; grind
    have k1 : key c ≠ key a := by
      intro hk
      have : crossE c a b = 0 := by rw [q3, hz]
      have hx : (key b - key a) * (c.x - a.x) = (b.x - a.x) * (key c - key a) := by unfold crossE at hz; unfold key; grind
      have hy : (key b - key a) * (c.y - a.y) = (b.y - a.y) * (key c - key a) := by unfold crossE at hz; unfold key; grind
      rw [hk, Int.sub_self, Int.mul_zero] at hx hy
      have hne := e.ne
      rcases Int.mul_eq_zero.1 hx with hx | hx
      · omega
      · rcases Int.mul_eq_zero.1 hy with hy | hy
        · omega
        · exact n1 (by obtain ⟨cx, cy⟩ := c; obtain ⟨ax, ay⟩ := a; simp only [Pt.mk.injEq]; simp only at hx hy; omega)
    have k2 : key c ≠ key b := by
      intro hk
      have hx : (key a - key b) * (c.x - b.x) = (a.x - b.x) * (key c - key b) := by unfold crossE at hz; unfold key; grind
      have hy : (key a - key b) * (c.y - b.y) = (a.y - b.y) * (key c - key b) := by unfold crossE at hz; unfold key; grind
      rw [hk, Int.sub_self, Int.mul_zero] at hx hy
      have hne := e.ne
      rcases Int.mul_eq_zero.1 hx with hx | hx
      · omega
      · rcases Int.mul_eq_zero.1 hy with hy | hy
        · omega
        · exact n2 (by obtain ⟨cx, cy⟩ := c; obtain ⟨bx, by'⟩ := b; simp only [Pt.mk.injEq]; simp only at hx hy; omega)
    unfold Btw at hb
    have z1 : crossE d c a = 0 ∧ crossE d c b = 0 := by
      rcases hb with hb | hb
      · have a1 := Int.mul_nonneg (show 0 ≤ key c - key a by omega) l2
        have a2 := Int.mul_nonneg (show 0 ≤ key b - key c by omega) l1
        have a3 : (key c - key a) * crossE d c b = -((key a - key c) * crossE d c b) := by grind
        have a4 : (key c - key a) * crossE d c b = 0 := by omega
        have a5 : (key b - key c) * crossE d c a = 0 := by omega
        rcases Int.mul_eq_zero.1 a4 with h | h <;> rcases Int.mul_eq_zero.1 a5 with h' | h' <;> omega
      · have a1 := Int.mul_nonneg (show 0 ≤ key a - key c by omega) l2
        have a2 := Int.mul_nonneg (show 0 ≤ key c - key b by omega) l1
        have a3 : (key c - key b) * crossE d c a = -((key b - key c) * crossE d c a) := by grind
        have a4 : (key a - key c) * crossE d c b = 0 := by omega
        have a5 : (key c - key b) * crossE d c a = 0 := by omega
        rcases Int.mul_eq_zero.1 a4 with h | h <;> rcases Int.mul_eq_zero.1 a5 with h' | h' <;> omega
    have b1 := e'.btw a ma z1.1
    have b2 := e'.btw b mb z1.2
    have hne := e'.ne
    unfold Btw at b1 b2
    omega
  · omega
theorem mod_step {n i j : Nat} (h0 : 0 < n) (h : (i + 1) % n = (j + 1) % n) : i % n = j % n := by
  have h1 := mod_lt' h0 i
  have h2 := mod_lt' h0 j
  have := Nat.mod_lt i h0
  have := Nat.mod_lt j h0
  rw [h1, h2] at h
  split at h <;> split at h <;> omega
/-- The turns are to the left. -/
theorem mod_ne1 {n : Nat} (h : 2 ≤ n) (i : Nat) : i % n ≠ (i + 1) % n := by
  have h1 := mod_lt' (show 0 < n by omega) i
  have := Nat.mod_lt i (show 0 < n by omega)
  rw [h1]; split <;> omega
theorem mod_ne2 {n : Nat} (h : 3 ≤ n) (i : Nat) : i % n ≠ (i + 2) % n := by
  have h1 := mod_lt' (show 0 < n by omega) i
  have h2 := mod_lt' (show 0 < n by omega) (i + 1)
  have := Nat.mod_lt i (show 0 < n by omega)
  rw [show i + 2 = i + 1 + 1 by omega, h2, h1]
  split <;> split <;> omega
theorem HullOf.turn {L H : List Pt} (h : HullOf L H) (h3 : 3 ≤ H.length) (i : Nat) : 0 < crossE (cornerP H i) (cornerP H (i + 1)) (cornerP H (i + 2)) :=
  h.strict (mod_ne2 h3 i) (fun e => mod_ne1 (by omega) (i + 1) e)
theorem meet_no {a b c d : Pt} (h1 : 0 < crossE a b c) (h2 : 0 < crossE a b d) (h3 : 0 < crossE c d a) (h4 : 0 < crossE c d b) : meetE a b c d = false := by
  have o : ∀ {a b p : Pt}, 0 < crossE a b p → onE a b p = false := fun h => decide_eq_false (fun hh => by omega)
  have s : ∀ {n : Int}, 0 < n → signE n = 1 := fun h => by unfold signE; split <;> omega
  unfold meetE
  rw [o h1, o h2, o h3, o h4, s h1, s h2]
  rfl
theorem HullOf.simple {L H : List Pt} (h : HullOf L H) (h3 : 3 ≤ H.length) : simpleE H = true := by
  have h0 : 0 < H.length := by omega
  refine simple_yes (fun i hi => ?_) (fun i hi k hk hik => ?_)
  · unfold turnBad
    have t1 := h.turn h3 i
    have e1 : ptEq (cornerP H i) (cornerP H (i + 1)) = false := by
      rw [Bool.eq_false_iff]; intro e; exact mod_ne1 (by omega) i (h.inj (ptEq_iff.1 e))
    have e2 : onE (cornerP H i) (cornerP H (i + 1)) (cornerP H (i + 2)) = false := decide_eq_false (fun hh => by omega)
    have e3 : onE (cornerP H (i + 1)) (cornerP H (i + 2)) (cornerP H i) = false := decide_eq_false (fun hh => by rw [← cross_rot] at hh; omega)
    rw [e1, e2, e3]; rfl
  · unfold pairBad
    by_cases hc : (k + 1) % H.length = i
    · rw [decide_eq_false (by simpa using hc)]; rfl
    · have m1 : i % H.length = i := Nat.mod_eq_of_lt hi
      have m2 : k % H.length = k := Nat.mod_eq_of_lt hk
      have m3 : (i + 1) % H.length = i + 1 := Nat.mod_eq_of_lt (by omega)
      have m4 := mod_lt' h0 k
      rw [m2] at m4
      rw [meet_no (h.strict (by omega) (by omega)) (h.strict (by rw [m1]; omega) (by rw [m3]; split at m4 <;> omega)) (h.strict (by omega) (by omega)) (h.strict (by omega) (by rw [m3]; split at m4 <;> omega))]
      simp
theorem parTo_one {f : Nat → Bool} {i n : Nat} (hi : i < n) (h : f i = true) (hu : ∀ j, j < n → j ≠ i → f j = false) : parTo f n = true := by
  have h0 : ∀ m, m ≤ i → parTo f m = false := by
    intro m
    induction m with
    | zero => intro; rfl
    | succ m ih => intro hm; rw [parTo, ih (by omega), hu m (by omega) (by omega)]; rfl
  have h1 : ∀ m, i < m → m ≤ n → parTo f m = true := by
    intro m
    induction m with
    | zero => omega
    | succ m ih =>
      intro hm hn
      rw [parTo]
      by_cases e : m = i
      · subst e; rw [h0 m (by omega), h]; rfl
      · rw [ih (by omega) (by omega), hu m (by omega) e]; rfl
  exact h1 n hi (by omega)
theorem weights {a b c d : Pt} {q : Int} (h1 : 0 ≤ crossE a b c) (h2 : 0 ≤ crossE a b d) (h3 : 0 ≤ crossE c d a) (h4 : 0 ≤ crossE c d b) (ha : a.y ≤ q) (hb : q < b.y) (hc : c.y ≤ q) (hd : q < d.y) : crossE a b c = 0 ∧ crossE a b d = 0 := by
  have e : (2 * d.y - (2 * q + 1)) * crossE a b c + ((2 * q + 1) - 2 * c.y) * crossE a b d + (2 * b.y - (2 * q + 1)) * crossE c d a + ((2 * q + 1) - 2 * a.y) * crossE c d b = 0 := by
    unfold crossE; grind
  have a1 := Int.mul_nonneg (show 0 ≤ 2 * d.y - (2 * q + 1) by omega) h1
  have a2 := Int.mul_nonneg (show 0 ≤ (2 * q + 1) - 2 * c.y by omega) h2
  have a3 := Int.mul_nonneg (show 0 ≤ 2 * b.y - (2 * q + 1) by omega) h3
  have a4 := Int.mul_nonneg (show 0 ≤ (2 * q + 1) - 2 * a.y by omega) h4
  have b1 : (2 * d.y - (2 * q + 1)) * crossE a b c = 0 := by omega
  have b2 : ((2 * q + 1) - 2 * c.y) * crossE a b d = 0 := by omega
  rcases Int.mul_eq_zero.1 b1 with h | h <;> rcases Int.mul_eq_zero.1 b2 with h' | h' <;> omega
/-- At a place left of all edges and on none the parity is odd. -/
theorem exists_max {n : Nat} (h : 0 < n) (f : Nat → Int) : ∃ i, i < n ∧ ∀ j, j < n → f j ≤ f i := by
  induction n with
  | zero => omega
  | succ n ih =>
    by_cases h0 : n = 0
    · subst h0; exact ⟨0, by omega, fun j hj => by have : j = 0 := by omega
                                                   subst this; omega⟩
    · obtain ⟨i, hi, hm⟩ := ih (by omega)
      by_cases hle : f n ≤ f i
      · exact ⟨i, by omega, fun j hj => by
          by_cases e : j = n
          · subst e; exact hle
          · exact hm j (by omega)⟩
      · exact ⟨n, by omega, fun j hj => by
          by_cases e : j = n
          · subst e; omega
          · have := hm j (by omega); omega⟩
theorem pl_y (z a b p : Pt) : (a.y - z.y) * crossE a b p - (b.y - a.y) * crossE z a p + (p.y - a.y) * crossE z a b = 0 := by unfold crossE; grind
theorem HullOf.cross_up {L H : List Pt} (h : HullOf L H) (h3 : 3 ≤ H.length) {p : Pt} (hp : ∀ i, 0 < crossE (cornerP H i) (cornerP H (i + 1)) p) : ∃ i, i < H.length ∧ (cornerP H i).y ≤ p.y ∧ p.y < (cornerP H (i + 1)).y := by
  have h0 : 0 < H.length := by omega
  have per : ∀ i, cornerP H i = cornerP H (i % H.length) := fun i => corner_mod (by simp)
  -- some corner is not above, and some corner is above
  have lo : ∃ i, (cornerP H i).y ≤ p.y := by
    apply Classical.byContradiction
    intro hn
    have hn : ∀ i, p.y < (cornerP H i).y := fun i => by
      apply Classical.byContradiction; intro hh; exact hn ⟨i, by omega⟩
    obtain ⟨i, hi, hm⟩ := exists_max h0 (fun j => -(cornerP H j).y)
    have hm' : ∀ j, (cornerP H i).y ≤ (cornerP H j).y := fun j => by rw [per j]; have := hm (j % H.length) (Nat.mod_lt _ h0); omega
    have t := h.turn h3 (i + H.length - 1)
    have q1 := hp (i + H.length - 1)
    have q2 := hp i
    rw [show i + H.length - 1 + 1 = i + H.length by omega, corner_per] at t q1
    rw [show i + H.length - 1 + 2 = i + 1 + H.length by omega, corner_per] at t
    have k := pl_y (cornerP H (i + H.length - 1)) (cornerP H i) (cornerP H (i + 1)) p
    have a1 := Int.mul_nonneg (show 0 ≤ (cornerP H (i + H.length - 1)).y - (cornerP H i).y by have := hm' (i + H.length - 1); omega) (show 0 ≤ crossE (cornerP H i) (cornerP H (i + 1)) p by omega)
    have a2 := Int.mul_nonneg (show 0 ≤ (cornerP H (i + 1)).y - (cornerP H i).y by have := hm' (i + 1); omega) (show 0 ≤ crossE (cornerP H (i + H.length - 1)) (cornerP H i) p by omega)
    have a3 := Int.mul_pos (show 0 < (cornerP H i).y - p.y by have := hn i; omega) t
    rw [Int.sub_mul] at a1 a2 a3 k
    rw [Int.sub_mul] at k
    rw [Int.sub_mul] at k
    omega
  have hi' : ∃ i, p.y < (cornerP H i).y := by
    apply Classical.byContradiction
    intro hn
    have hn : ∀ i, (cornerP H i).y ≤ p.y := fun i => by
      apply Classical.byContradiction; intro hh; exact hn ⟨i, by omega⟩
    obtain ⟨i, hi, hm⟩ := exists_max h0 (fun j => (cornerP H j).y)
    have hm' : ∀ j, (cornerP H j).y ≤ (cornerP H i).y := fun j => by rw [per j]; have := hm (j % H.length) (Nat.mod_lt _ h0); omega
    have t := h.turn h3 (i + H.length - 1)
    have q1 := hp (i + H.length - 1)
    have q2 := hp i
    rw [show i + H.length - 1 + 1 = i + H.length by omega, corner_per] at t q1
    rw [show i + H.length - 1 + 2 = i + 1 + H.length by omega, corner_per] at t
    have k := pl_y (cornerP H (i + H.length - 1)) (cornerP H i) (cornerP H (i + 1)) p
    have z1 : 0 ≤ (cornerP H i).y - (cornerP H (i + H.length - 1)).y := by have := hm' (i + H.length - 1); omega
    have z2 : 0 ≤ (cornerP H i).y - (cornerP H (i + 1)).y := by have := hm' (i + 1); omega
    have z3 : 0 ≤ p.y - (cornerP H i).y := by have := hn i; omega
    have a1 := Int.mul_nonneg z1 (show 0 ≤ crossE (cornerP H i) (cornerP H (i + 1)) p by omega)
    have a2 := Int.mul_nonneg z2 (show 0 ≤ crossE (cornerP H (i + H.length - 1)) (cornerP H i) p by omega)
    have a3 := Int.mul_nonneg z3 (show 0 ≤ crossE (cornerP H (i + H.length - 1)) (cornerP H i) (cornerP H (i + 1)) by omega)
    have k' : ((cornerP H i).y - (cornerP H (i + H.length - 1)).y) * crossE (cornerP H i) (cornerP H (i + 1)) p + ((cornerP H i).y - (cornerP H (i + 1)).y) * crossE (cornerP H (i + H.length - 1)) (cornerP H i) p + (p.y - (cornerP H i).y) * crossE (cornerP H (i + H.length - 1)) (cornerP H i) (cornerP H (i + 1)) = 0 := by
      rw [← k]; grind
    have b1 : ((cornerP H i).y - (cornerP H (i + H.length - 1)).y) * crossE (cornerP H i) (cornerP H (i + 1)) p = 0 := by omega
    have b2 : ((cornerP H i).y - (cornerP H (i + 1)).y) * crossE (cornerP H (i + H.length - 1)) (cornerP H i) p = 0 := by omega
    have c1 : (cornerP H i).y = (cornerP H (i + H.length - 1)).y := by rcases Int.mul_eq_zero.1 b1 with h | h <;> omega
    have c2 : (cornerP H i).y = (cornerP H (i + 1)).y := by rcases Int.mul_eq_zero.1 b2 with h | h <;> omega
    unfold crossE at t
    rw [← c1, ← c2] at t
    simp at t
  obtain ⟨i, hi⟩ := lo
  obtain ⟨j, hj⟩ := hi'
  -- going on from i, one comes to the first corner above
  have : ∃ k, (cornerP H (i + k)).y ≤ p.y ∧ p.y < (cornerP H (i + k + 1)).y := by
    apply Classical.byContradiction
    intro hn
    have all : ∀ k, (cornerP H (i + k)).y ≤ p.y := by
      intro k
      induction k with
      | zero => exact hi
      | succ k ih =>
        apply Classical.byContradiction
        intro hh
        exact hn ⟨k, ih, by rw [show i + k + 1 = i + (k + 1) by omega]; omega⟩
    have := all (j + H.length * i - i)
    have hle : i ≤ H.length * i := Nat.le_mul_of_pos_left i h0
    rw [show i + (j + H.length * i - i) = j + H.length * i by omega, per, Nat.add_mul_mod_self_left, ← per] at this
    omega
  obtain ⟨k, k1, k2⟩ := this
  refine ⟨(i + k) % H.length, Nat.mod_lt _ h0, by rw [← per]; exact k1, ?_⟩
  rw [show cornerP H ((i + k) % H.length + 1) = cornerP H (i + k + 1) from corner_mod (by simp [Nat.add_mod])]
  exact k2
theorem HullOf.inside {L H : List Pt} (h : HullOf L H) (h3 : 3 ≤ H.length) {p : Pt} (hp : p ∈ L) : 0 ≤ insE H p := by
  unfold insE
  split
  · omega
  rename_i hon
  have hon' : ∀ i, onE (cornerP H i) (cornerP H (i + 1)) p = false := by
    intro i
    have h0 : 0 < H.length := by omega
    rw [Bool.eq_false_iff]
    intro e
    apply hon
    refine onAny_yes (Nat.mod_lt i h0) ?_
    rw [show cornerP H (i % H.length) = cornerP H i from corner_mod (by simp), show cornerP H (i % H.length + 1) = cornerP H (i + 1) from corner_mod (by simp [Nat.add_mod])]
    exact e
  have hpos : ∀ i, 0 < crossE (cornerP H i) (cornerP H (i + 1)) p := by
    intro i
    have e := h.edgeC i
    have h1 := e.left p hp
    by_cases hz : crossE (cornerP H i) (cornerP H (i + 1)) p = 0
    · have := e.on hp hz
      rw [hon' i] at this; cases this
    · omega
  obtain ⟨i, hi, l1, l2⟩ := h.cross_up h3 hpos
  have hup : ∀ j, rightX (cornerP H j) (cornerP H (j + 1)) p = decide ((cornerP H j).y ≤ p.y ∧ p.y < (cornerP H (j + 1)).y) := by
    intro j
    have := hpos j
    have e := cross_sw' (cornerP H j) (cornerP H (j + 1)) p
    unfold rightX
    by_cases hs : (cornerP H (j + 1)).y < (cornerP H j).y
    · simp only [if_pos hs]
      rw [decide_eq_false (by omega), decide_eq_false (by omega)]
    · simp only [if_neg hs]
      exact decide_eq_decide.2 (by omega)
  have : oddR H p H.length = true := by
    unfold oddR
    refine parTo_one hi (by rw [hup]; exact decide_eq_true ⟨l1, l2⟩) (fun j hj hne => ?_)
    rw [hup, decide_eq_false_iff_not]
    intro hh
    have w := weights (q := p.y) ((h.edgeC i).left _ (h.memC j)) ((h.edgeC i).left _ (h.memC (j + 1))) ((h.edgeC j).left _ (h.memC i)) ((h.edgeC j).left _ (h.memC (i + 1))) l1 l2 hh.1 hh.2
    have m1 : i % H.length = i := Nat.mod_eq_of_lt hi
    have m2 : j % H.length = j := Nat.mod_eq_of_lt hj
    have x1 : (i + 1) % H.length = j % H.length := by
      apply Classical.byContradiction; intro hx
      have := h.strict (i := i) (j := j) (by omega) hx
      omega
    have x2 : i % H.length = (j + 1) % H.length := by
      apply Classical.byContradiction; intro hx
      have := h.strict (i := i) (j := j + 1) hx (fun e => hne (by have := mod_step (by omega) e; omega))
      omega
    have m3 := mod_lt' (show 0 < H.length by omega) i
    have m4 := mod_lt' (show 0 < H.length by omega) j
    rw [x1, m1] at m3
    rw [← x2, m2] at m4
    split at m3 <;> split at m4 <;> omega
  rw [if_pos this]; omega
end Go.Pv.Geo

open Go Go.Proofs Go.Pv
set_option maxHeartbeats 4000000
set_option maxRecDepth 100000
set_option linter.unusedSimpArgs false
set_option linter.unusedVariables false
namespace Go.Pv.Geo
def encZ (n : Int) : List D := [.int .i64 n]
theorem scalZ : ScalF encZ 1 := fun _ => ⟨rfl, rfl⟩
/-- The first one that is not 0, or 0. -/
def orE (l : List Int) : Int := (l.find? fun x => decide (x ≠ 0)).getD 0
theorem orE_hit {l : List Int} {i : Nat} (hi : i < l.length) (h : l[i] ≠ 0) (hb : ∀ j (hj : j < i), l[j]'(by omega) = 0) : orE l = l[i] := by
  have : l.find? (fun x => decide (x ≠ 0)) = some l[i] := by
    rw [List.find?_eq_some_iff_getElem]
    exact ⟨by simpa using h, i, hi, rfl, fun j hj => by simpa using hb j hj⟩
  rw [orE, this]; rfl
theorem orE_none {l : List Int} (h : ∀ j (hj : j < l.length), l[j] = 0) : orE l = 0 := by
  have : l.find? (fun x => decide (x ≠ 0)) = none := by
    rw [List.find?_eq_none]
    intro x hx
    obtain ⟨j, hj, rfl⟩ := List.getElem_of_mem hx
    simpa using h j hj
  rw [orE, this]; rfl
theorem c_Or (l : List Int) (hl : l.length < 1000000000000) : Contract Try.prog 116 [.sl (l.map encZ)] (.ret (.int .i64 (orE l))) := by
  refine contract_of mix Try.func116 rfl rfl (by rw [Try.ntmps116]; exact Nat.le_of_ble_eq_true rfl) ?_; rw [Try.results116, Try.ntmps116]; simp only [argsE, Nat.reduceAdd]
  repeat' first
           | (with_reducible apply go_op)
           | (with_reducible apply go_next)
           | ((with_reducible (show evOp _ _ _ _ _ _)); first
             | ((with_reducible (show evOp _ (.move _) _ _ _ _)) ; first | ((with_reducible apply go_mv_int); rfl; rfl) | ((with_reducible apply go_mv_sl); rfl; rfl))
             | ((with_reducible apply go_as))
             | (((with_reducible apply go_len); rfl; rfl)))
           | ((with_reducible (show evOps _ _ _ _ _ _)); first
             | (with_reducible apply go_nil))
           | ((with_reducible (show evG _ _ _ _ _)); first
             | (with_reducible apply go_seq)
             | (with_reducible apply go_region)
             | (with_reducible apply go_block))
           | (with_reducible apply go_kseq)
  refine go_count l.length (fun i => ⟨[(8, .int .i64 i), (7, .int .i64 l.length), (6, .sl (l.map encZ)), (3, .int .i64 0), (2, .int .i64 0)], [], 32, 18⟩) (fun i => ∀ j (hj : j < i), ∀ (hl : j < l.length), l[j] = 0)
    (entails_eq (nx := 32) (k := 0) (ns := []) (ks := [8, 7, 6, 3, 2]) [] rfl (by simp) (by kernel_rfl)) (fun j hj => by omega) ?_
  intro i hi hC
  by_cases hlt : i < l.length
  · repeat' first
           | (with_reducible apply go_op)
           | (with_reducible apply go_next)
           | ((with_reducible (show evOp _ _ _ _ _ _)); first
             | (((with_reducible apply go_mv_int); rfl; rfl))
             | ((with_reducible apply go_as))
             | (((with_reducible apply go_load); rfl; rfl; rfl))
             | (((with_reducible apply go_index_nat); rfl; rfl; (with_reducible rfl); (intro; rfl); rfl; omega; (intro hlt)))
             | ((with_reducible (show evOp _ (.binOp _ _ _ _ _) _ _ _ _)) ; first | ((with_reducible apply go_cmp); rfl; rfl; rfl; rfl) | ((with_reducible apply go_add); rfl; rfl; rfl; omega)))
           | ((with_reducible (show evOps _ _ _ _ _ _)); first
             | (with_reducible apply go_nil))
           | ((with_reducible (show evG _ _ _ _ _)); first
             | (with_reducible apply go_seq)
             | (with_reducible apply go_region)
             | (((with_reducible apply go_cond); rfl) <;> (intro h; simp only [h]; try simp only [decide_eq_true_eq, decide_eq_false_iff_not, Bool.not_eq_true', Bool.not_eq_false', Bool.not_true, Bool.not_false] at h; try exact absurd trivial h))
             | (with_reducible apply go_ret)
             | (with_reducible apply go_skipc)
             | (with_reducible apply go_block)
             | (with_reducible apply go_exit))
           | (with_reducible apply go_kseq)
           | (with_reducible apply go_kseq_ret)
           | (with_reducible apply go_kblock)
           | (with_reducible apply go_kblock_ret)
           | (with_reducible apply go_kblock_exit)
           | (with_reducible apply go_kseq_exit)
           | ((with_reducible apply end_int); rfl)
    all_goals try (exfalso; omega)
    · exact (orE_hit hlt (by assumption) (fun j hj => hC j hj (by omega))).symm
    · refine ⟨hlt, fun j hj hj2 => ?_, entails_eq (nx := 32) (k := 0) (ns := []) (ks := [8, 7, 6, 3, 2]) [] rfl (by simp) (by kernel_rfl)⟩
      rcases Nat.lt_succ_iff_lt_or_eq.1 hj with h' | rfl
      · exact hC j h' hj2
      · assumption
  · have e : i = l.length := by omega
    subst e
    repeat' first
           | (with_reducible apply go_op)
           | (with_reducible apply go_next)
           | ((with_reducible (show evOp _ _ _ _ _ _)); first
             | (((with_reducible apply go_mv_int); rfl; rfl))
             | ((with_reducible apply go_as))
             | (((with_reducible apply go_load); rfl; rfl; rfl))
             | (((with_reducible apply go_index_nat); rfl; rfl; (with_reducible rfl); (intro; rfl); rfl; omega; (intro hlt)))
             | ((with_reducible (show evOp _ (.binOp _ _ _ _ _) _ _ _ _)) ; first | ((with_reducible apply go_cmp); rfl; rfl; rfl; rfl) | ((with_reducible apply go_add); rfl; rfl; rfl; omega)))
           | ((with_reducible (show evOps _ _ _ _ _ _)); first
             | (with_reducible apply go_nil))
           | ((with_reducible (show evG _ _ _ _ _)); first
             | (with_reducible apply go_seq)
             | (with_reducible apply go_region)
             | (((with_reducible apply go_cond); rfl) <;> (intro h; simp only [h]; try simp only [decide_eq_true_eq, decide_eq_false_iff_not, Bool.not_eq_true', Bool.not_eq_false', Bool.not_true, Bool.not_false] at h; try exact absurd trivial h))
             | (with_reducible apply go_ret)
             | (with_reducible apply go_skipc)
             | (with_reducible apply go_block)
             | (with_reducible apply go_exit))
           | (with_reducible apply go_kseq)
           | (with_reducible apply go_kseq_ret)
           | (with_reducible apply go_kblock)
           | (with_reducible apply go_kblock_ret)
           | (with_reducible apply go_kblock_exit)
           | (with_reducible apply go_kseq_exit)
           | ((with_reducible apply end_int); rfl)
    all_goals first
      | (exfalso; omega)
      | exact (orE_none fun j hj => hC j hj hj).symm
      | trace_state
theorem c_Or2 (a b : Int) : Contract Try.prog 116 [.sl [[.int .i64 a], [.int .i64 b]]] (.ret (.int .i64 (orE [a, b]))) := c_Or [a, b] (by simp)
theorem c_Or3 (a b c : Int) : Contract Try.prog 116 [.sl [[.int .i64 a], [.int .i64 b], [.int .i64 c]]] (.ret (.int .i64 (orE [a, b, c]))) := c_Or [a, b, c] (by simp)
/-- Which of two places comes first. -/
def aheadE (p q : Pt) : Int := orE [cmpE p.x q.x, cmpE p.y q.y]
theorem c_ahead (p q : Pt) : Contract Try.prog 109 [.agg (encPt p), .agg (encPt q)] (.ret (.int .i64 (aheadE p q))) := by
  refine contract_of mix Try.func109 rfl rfl (by rw [Try.ntmps109]; exact Nat.le_of_ble_eq_true rfl) ?_; rw [Try.results109, Try.ntmps109]; simp only [argsE, Nat.reduceAdd]
  repeat' first
           | (with_reducible apply go_op)
           | (with_reducible apply go_next)
           | ((with_reducible (show evOp _ _ _ _ _ _)); first
             | (((with_reducible apply go_mv_int); rfl; rfl))
             | ((with_reducible apply go_as))
             | (((with_reducible apply go_load_own); rfl; rfl; rfl; rfl))
             | (((with_reducible apply go_fieldAddr_own); rfl; rfl; rfl))
             | ((with_reducible (show evOp _ (.call _) _ _ _ _)) ; first | ((with_reducible apply go_fn_int); rfl; (exact c_compare _ _); rfl) | ((with_reducible apply go_fn_int); rfl; (exact c_Or2 _ _); rfl))
             | (((with_reducible apply go_bx_agg); rfl; rfl; (exact Nat.le_of_ble_eq_true rfl); rfl; rfl))
             | (((with_reducible apply go_bs2_int); rfl; rfl; rfl; rfl)))
           | ((with_reducible (show evOps _ _ _ _ _ _)); first
             | (with_reducible apply go_nil)
             | ((with_reducible apply go_pre); rfl)
             | (with_reducible apply go_pre_nil)
             | ((with_reducible apply go_suf); rfl)
             | (with_reducible apply go_suf_nil))
           | ((with_reducible (show evG _ _ _ _ _)); first
             | (with_reducible apply go_seq)
             | (with_reducible apply go_region)
             | ((with_reducible apply go_order); kernel_rfl; rfl)
             | (with_reducible apply go_ret))
           | (with_reducible apply go_kseq)
           | (with_reducible apply go_ksuf)
           | ((with_reducible apply end_int); rfl)
  all_goals rfl
theorem or2 (a b : Int) : orE [a, b] = if a ≠ 0 then a else b := by
  unfold orE
  by_cases ha : a = 0 <;> by_cases hb : b = 0 <;> simp [ha, hb, List.find?]
theorem ahead_lt (p q : Pt) : ltOf aheadE p q = decide (p.x < q.x ∨ (p.x = q.x ∧ p.y < q.y)) := by
  unfold ltOf aheadE cmpE
  rw [or2]
  refine decide_eq_decide.2 ?_
  (repeat' split) <;> omega
theorem ahead_swo : Go.Sort.SWO (ltOf aheadE) where
  irrefl x := by rw [ahead_lt]; simp
  trans x y z h1 h2 := by rw [ahead_lt] at *; simp at *; omega
  ntrans x y z h1 h2 := by rw [ahead_lt] at *; simp at *; omega
theorem ahead_tot (x y : Pt) (h1 : ltOf aheadE x y = false) (h2 : ltOf aheadE y x = false) : x = y := by
  rw [ahead_lt] at *
  simp at *
  obtain ⟨a, b⟩ := x; obtain ⟨c, d⟩ := y
  simp only [Pt.mk.injEq]; simp only at h1 h2; omega
instance : Inhabited Pt := ⟨⟨0, 0⟩⟩
def sortPts (l : List Pt) : List Pt := sortBy aheadE l
theorem c_SortFunc (l : List Pt) (hl : l.length < 4611686018427387904) : ContractM Try.prog 108 [.os 0 0 l.length, .clo (.func 109) [] []] ⟨2, true, l.map encPt⟩ (.tup []) ⟨2, true, (sortPts l).map encPt⟩ :=
  contractM_sort sortPt 2 (by decide) Try.isAgg23 Try.sizeOf23 (fun p : Pt => [p.x, p.y]) (fun _ => rfl) aheadE ahead_swo ahead_tot 109 (enters_of Try.func109 (by kernel_rfl) rfl)
    (fun x y => c_ahead x y) ⟨_, Try.func108, by kernel_rfl, by kernel_rfl⟩ l hl
end Go.Pv.Geo

open Go Go.Proofs Go.Pv
set_option maxHeartbeats 8000000
set_option maxRecDepth 100000
set_option linter.unusedSimpArgs false
set_option linter.unusedVariables false
namespace Go.Pv.Geo
theorem scalR_pts (l : List Pt) : scalR (l.map encPt) = true := by
  simp only [scalR, List.all_map, List.all_eq_true, Function.comp]
  exact fun x _ => List.all_eq_true.1 (scalPt x).2
/-- A list whose first and last places have been exchanged, so many. -/
def revL (l : List Pt) (i : Nat) : List Pt := (List.range l.length).map fun x => if x < i ∨ l.length - i ≤ x then l.getD (l.length - 1 - x) ⟨0, 0⟩ else l.getD x ⟨0, 0⟩
theorem revL_len (l : List Pt) (i : Nat) : (revL l i).length = l.length := by simp [revL]
theorem revL_get {l : List Pt} {i x : Nat} (hx : x < (revL l i).length) : (revL l i)[x] = if x < i ∨ l.length - i ≤ x then l.getD (l.length - 1 - x) ⟨0, 0⟩ else l.getD x ⟨0, 0⟩ := by simp [revL]
theorem revL_0 (l : List Pt) : l = revL l 0 := by
  apply List.ext_getElem
  · simp [revL]
  · intro x h1 h2
    rw [revL_get, if_neg (by omega), List.getD_eq_getElem?_getD, List.getElem?_eq_getElem h1]; rfl
theorem revL_end {l : List Pt} {i : Nat} (h : l.length ≤ 2 * i + 1) : revL l i = l.reverse := by
  apply List.ext_getElem
  · simp [revL]
  · intro x h1 h2
    have hx : x < l.length := by simpa [revL] using h1
    rw [revL_get, List.getElem_reverse]
    split
    · rw [List.getD_eq_getElem?_getD, List.getElem?_eq_getElem (by omega)]; rfl
    · rw [List.getD_eq_getElem?_getD, List.getElem?_eq_getElem hx]
      simp only [Option.getD_some]
      congr 1; omega
theorem revL_step {l : List Pt} {i : Nat} (h : 2 * i + 1 < l.length) (hi : i < (revL l i).length) (hj : l.length - 1 - i < (revL l i).length) :
    ((revL l i).set i (revL l i)[l.length - 1 - i]).set (l.length - 1 - i) (revL l i)[i] = revL l (i + 1) := by
  apply List.ext_getElem
  · simp [revL]
  · intro x h1 h2
    have hx : x < l.length := by simpa [revL] using h2
    simp only [List.getElem_set, revL_get]
    by_cases e1 : l.length - 1 - i = x
    · rw [if_pos e1, if_neg (by omega), if_pos (by omega)]
      subst e1
      rw [show l.length - 1 - (l.length - 1 - i) = i by omega]
    · rw [if_neg e1]
      by_cases e2 : i = x
      · rw [if_pos e2, if_neg (by omega), if_pos (by omega)]
        subst e2; rfl
      · rw [if_neg e2]
        by_cases e3 : x < i ∨ l.length - i ≤ x
        · rw [if_pos e3, if_pos (by omega)]
        · rw [if_neg e3, if_neg (by omega)]
theorem c_Reverse (l : List Pt) (hl : l.length < 1000000000000) : ContractM Try.prog 111 [.os 0 0 l.length] ⟨2, true, l.map encPt⟩ (.tup []) ⟨2, true, l.reverse.map encPt⟩ := by
  refine contractM_of mix Try.func111 rfl rfl (by rw [Try.ntmps111]; exact Nat.le_of_ble_eq_true rfl) (by kernel_rfl) (scalR_pts _) rfl ?_; rw [Try.results111, Try.ntmps111]; simp only [argsE, Nat.reduceAdd]
  repeat' first
           | (with_reducible apply go_op)
           | (with_reducible apply go_next)
           | ((with_reducible (show evOp _ _ _ _ _ _)); first
             | ((with_reducible (show evOp _ (.move _) _ _ _ _)) ; first | ((with_reducible apply go_mv_int); rfl; rfl) | ((with_reducible apply go_mv_os); rfl; rfl))
             | ((with_reducible apply go_as))
             | (((with_reducible apply go_sub); rfl; rfl; rfl; omega))
             | (((with_reducible apply go_len_own); rfl; rfl; rfl)))
           | ((with_reducible (show evOps _ _ _ _ _ _)); first
             | (with_reducible apply go_nil))
           | ((with_reducible (show evG _ _ _ _ _)); first
             | (with_reducible apply go_seq)
             | (with_reducible apply go_region)
             | (with_reducible apply go_block))
           | (with_reducible apply go_kseq)
  refine go_count (l.length / 2) (fun i => ⟨[(3, .int .i64 (((l.length : Nat) : Int) - 1 - i)), (2, .int .i64 i), (0, .os 0 0 l.length)], [(0, ⟨2, true, (revL l i).map encPt⟩)], 32, 28⟩) (fun i => True)
    (entailsK_eq (nx := 32) (k := 0) (ns := []) (ks := [3, 2, 0]) [(0, 0)] (by simp) rfl (by simp) (by rw [show ([(0, ⟨2, true, (revL l 0).map encPt⟩)] : Hp) = [(0, ⟨2, true, l.map encPt⟩)] by rw [← revL_0]]; simp only [Int.natCast_zero, Int.sub_zero]; kernel_rfl)) trivial ?_
  intro i hi _
  have hrl := revL_len l i
  by_cases hlt : 2 * i + 1 < l.length
  · have hst := fun a b => revL_step (l := l) (i := i) hlt a b
    obtain ⟨j, hj, hj2⟩ : ∃ j : Nat, ((l.length : Nat) : Int) - 1 - i = j ∧ j = l.length - 1 - i := ⟨l.length - 1 - i, by omega, rfl⟩
    rw [← hj2] at hst
    rw [hj]
    generalize revL l i = r at *
    repeat' first
           | (with_reducible apply go_op)
           | (with_reducible apply go_next)
           | ((with_reducible (show evOp _ _ _ _ _ _)); first
             | ((with_reducible (show evOp _ (.move _) _ _ _ _)) ; first | ((with_reducible apply go_mv_int); rfl; rfl) | ((with_reducible apply go_mv_os); rfl; rfl))
             | (((with_reducible apply go_load_om); rfl; rfl; rfl; rfl; rotate_left; assumption))
             | (((with_reducible apply go_index_om); rfl; rfl; rfl; (with_reducible rfl); rfl; rfl; omega; (intro hlt)))
             | (((with_reducible apply go_cmp); rfl; rfl; rfl; rfl)))
           | ((with_reducible (show evOps _ _ _ _ _ _)); first
             | (with_reducible apply go_nil)
             | (with_reducible apply go_take)
             | (with_reducible apply go_take0))
           | ((with_reducible (show evG _ _ _ _ _)); first
             | (with_reducible apply go_seq)
             | (with_reducible apply go_region)
             | (((with_reducible apply go_cond); rfl) <;> (intro h; simp only [h]; try simp only [decide_eq_true_eq, decide_eq_false_iff_not, Bool.not_eq_true', Bool.not_eq_false', Bool.not_true, Bool.not_false] at h; try exact absurd trivial h))
             | ((with_reducible apply (go_drawL 13 [[2, 3], [], []])); decide +kernel; rfl)
             | (with_reducible apply go_skipc)
             | (with_reducible apply go_block)
             | (with_reducible apply go_exit))
           | (with_reducible apply go_klined)
           | (with_reducible apply go_line_drop)
           | (with_reducible apply go_line_drop0)
           | (with_reducible apply go_line)
           | (with_reducible apply go_kseq)
           | (with_reducible apply go_kblock_exit)
           | (with_reducible apply go_kseq_exit)
    all_goals try (exfalso; omega)
    refine go_store_om (f := encPt) (l := r) (a := r[j]'(by omega)) rfl rfl rfl (by omega) rfl rfl rfl rfl (Nat.le_of_ble_eq_true rfl) rfl ?_
    have hr1 : (r.set i (r[j]'(by omega))).length = l.length := by rw [List.length_set]; exact hrl
    have hst' := hst (by omega) (by omega)
    generalize ha : r[i]'(by omega) = a at *
    generalize r.set i (r[j]'(by omega)) = r1 at *
    repeat' first
           | ((with_reducible (show evOp _ _ _ _ _ _)); first
             | ((with_reducible (show evOp _ (.move _) _ _ _ _)) ; first | ((with_reducible apply go_mv_int); rfl; rfl) | ((with_reducible apply go_mv_os); rfl; rfl))
             | (((with_reducible apply go_index_om); rfl; rfl; rfl; (with_reducible rfl); rfl; rfl; omega; (intro hlt))))
           | (with_reducible apply go_line)
           | (with_reducible apply go_kln)
           | (with_reducible apply go_again_nil)
           | ((with_reducible apply go_again); rfl; (intro id'))
           | ((with_reducible apply go_kagain); rfl)
    refine go_store_om (f := encPt) (l := r1) (a := a) rfl rfl rfl (by omega) rfl rfl rfl rfl (Nat.le_of_ble_eq_true rfl) rfl ?_
    rw [hst']
    repeat' first
           | (with_reducible apply go_op)
           | (with_reducible apply go_next)
           | ((with_reducible (show evOp _ _ _ _ _ _)); first
             | (((with_reducible apply go_mv_int); rfl; rfl))
             | ((with_reducible apply go_as))
             | ((with_reducible (show evOp _ (.binOp _ _ _ _ _) _ _ _ _)) ; first | ((with_reducible apply go_add); rfl; rfl; rfl; omega) | ((with_reducible apply go_sub); rfl; rfl; rfl; omega)))
           | ((with_reducible (show evOps _ _ _ _ _ _)); first
             | (with_reducible apply go_nil))
           | ((with_reducible (show evG _ _ _ _ _)); first
             | (with_reducible apply go_region))
           | (with_reducible apply go_line_nil)
           | (with_reducible apply go_kln)
           | (with_reducible apply go_again_nil)
           | (with_reducible apply go_kseq)
           | (with_reducible apply go_kblock)
    exact ⟨by omega, trivial, entailsK_eq (nx := 32) (k := 0) (ns := []) (ks := [3, 2, 0]) [(0, 0)] (by simp) rfl (by simp) (by rw [show ((l.length : Nat) : Int) - 1 - ((i + 1 : Nat) : Int) = (j : Int) - 1 by omega]; kernel_rfl)⟩
  · have e := revL_end (l := l) (i := i) (by omega)
    repeat' first
           | (with_reducible apply go_op)
           | (with_reducible apply go_next)
           | ((with_reducible (show evOp _ _ _ _ _ _)); first
             | ((with_reducible (show evOp _ (.move _) _ _ _ _)) ; first | ((with_reducible apply go_mv_int); rfl; rfl) | ((with_reducible apply go_mv_os); rfl; rfl))
             | (((with_reducible apply go_index_own); rfl; rfl; rfl; rfl; rfl; omega))
             | (((with_reducible apply go_cmp); rfl; rfl; rfl; rfl)))
           | ((with_reducible (show evOps _ _ _ _ _ _)); first
             | (with_reducible apply go_nil)
             | (with_reducible apply go_take))
           | ((with_reducible (show evG _ _ _ _ _)); first
             | (with_reducible apply go_seq)
             | (with_reducible apply go_region)
             | (((with_reducible apply go_cond); rfl) <;> (intro h; simp only [h]; try simp only [decide_eq_true_eq, decide_eq_false_iff_not, Bool.not_eq_true', Bool.not_eq_false', Bool.not_true, Bool.not_false] at h; try exact absurd trivial h))
             | ((with_reducible apply (go_drawL 13 [[2, 3], [], []])); decide +kernel; rfl)
             | (with_reducible apply go_skipc)
             | (with_reducible apply go_block)
             | (with_reducible apply go_exit))
           | (with_reducible apply go_kseq)
           | (with_reducible apply go_kblock_exit)
           | (with_reducible apply go_kseq_exit)
    all_goals first
      | (exfalso; omega)
      | exact ⟨[], rfl, rfl, by rw [← e]; rfl⟩
      | trace_state
end Go.Pv.Geo

open Go Go.Proofs Go.Pv
set_option maxHeartbeats 8000000
set_option maxRecDepth 100000
set_option linter.unusedSimpArgs false
set_option linter.unusedVariables false
namespace Go.Pv.Geo
/-- Is a place of a list unlike the one ahead of it? -/
def keepB (l : List Pt) (i : Nat) : Bool := decide (i = 0) || !ptEq (l.getD i ⟨0, 0⟩) (l.getD (i - 1) ⟨0, 0⟩)
def compT (l : List Pt) (m : Nat) : List Pt := ((List.range m).filter (keepB l)).map fun i => l.getD i ⟨0, 0⟩
def compL (l : List Pt) : List Pt := compT l l.length
theorem compT_le (l : List Pt) (m : Nat) : (compT l m).length ≤ m := by
  have := List.length_filter_le (keepB l) (List.range m)
  simp only [compT, List.length_map, List.length_range] at *; omega
theorem compT_yes {l : List Pt} {m : Nat} (h : keepB l m = true) : compT l (m + 1) = compT l m ++ [l.getD m ⟨0, 0⟩] := by
  simp [compT, List.range_succ, List.filter_append, h]
theorem compT_no {l : List Pt} {m : Nat} (h : keepB l m = false) : compT l (m + 1) = compT l m := by
  simp [compT, List.range_succ, List.filter_append, h]
theorem compT_all {l : List Pt} {m : Nat} (hm : m ≤ l.length) (h : ∀ j, j < m → keepB l j = true) : compT l m = l.take m := by
  induction m with
  | zero => rfl
  | succ m ih =>
    rw [compT_yes (h m (by omega)), ih (by omega) (fun j hj => h j (by omega)), List.take_add_one, List.getD_eq_getElem?_getD, List.getElem?_eq_getElem (by omega)]
    rfl
/-- The list while it is compacted: the kept ones, and what stood behind. -/
def rowsC (l : List Pt) (m : Nat) : List Pt := compT l m ++ l.drop (compT l m).length
theorem rowsC_len {l : List Pt} {m : Nat} (hm : m ≤ l.length) : (rowsC l m).length = l.length := by
  have := compT_le l m
  simp [rowsC]; omega
theorem rowsC_get {l : List Pt} {m x : Nat} (hx : x < (rowsC l m).length) (hk : (compT l m).length ≤ x) (hx' : x < l.length) : (rowsC l m)[x] = l[x] := by
  simp only [rowsC]
  rw [List.getElem_append_right hk, List.getElem_drop]
  congr 1; omega
theorem rowsC_all {l : List Pt} {m : Nat} (hm : m ≤ l.length) (h : ∀ j, j < m → keepB l j = true) : rowsC l m = l := by
  rw [rowsC, compT_all hm h, List.length_take, Nat.min_eq_left hm, List.take_append_drop]
theorem rowsC_set {l : List Pt} {m : Nat} (hm : m < l.length) (h : keepB l m = true) : (rowsC l m).set (compT l m).length l[m] = rowsC l (m + 1) := by
  have hle := compT_le l m
  unfold rowsC
  rw [compT_yes h, List.set_append_right _ _ (Nat.le_refl _), Nat.sub_self, List.length_append, List.length_singleton, List.append_assoc]
  congr 1
  rw [List.drop_eq_getElem_cons (show (compT l m).length < l.length by omega), List.set_cons_zero, List.getD_eq_getElem?_getD, List.getElem?_eq_getElem hm]
  rfl
theorem rowsC_no {l : List Pt} {m : Nat} (h : keepB l m = false) : rowsC l m = rowsC l (m + 1) := by rw [rowsC, rowsC, compT_no h]
theorem rowsC_take (l : List Pt) (m : Nat) : (rowsC l m).take (compT l m).length = compT l m := by simp [rowsC]
theorem keep_iff {l : List Pt} {i : Nat} (h0 : 0 < i) (hi : i < l.length) : keepB l i = !ptEq l[i] (l[i - 1]'(by omega)) := by
  unfold keepB
  rw [decide_eq_false (by omega), List.getD_eq_getElem?_getD, List.getElem?_eq_getElem hi, List.getD_eq_getElem?_getD, List.getElem?_eq_getElem (by omega)]
  rfl
theorem keep_0 {l : List Pt} {j : Nat} (h : j < 1) : keepB l j = true := by
  obtain rfl : j = 0 := by omega
  rfl
theorem c_Compact (l : List Pt) (hl : l.length < 1000000000000) : ContractM Try.prog 110 [.os 0 0 l.length] ⟨2, true, l.map encPt⟩ (.os 0 0 (compL l).length) ⟨2, true, (compL l).map encPt⟩ := by
  by_cases h2 : l.length < 2
  · have e : compL l = l := by
      unfold compL
      have := compT_all (l := l) (m := l.length) (Nat.le_refl _) (fun j hj => keep_0 (by omega))
      rw [this]; exact List.take_length
    rw [e]
    refine contractM_of mix Try.func110 rfl rfl (by rw [Try.ntmps110]; exact Nat.le_of_ble_eq_true rfl) (by kernel_rfl) (scalR_pts _) rfl ?_; rw [Try.results110, Try.ntmps110]; simp only [argsE, Nat.reduceAdd]
    repeat' first
           | (with_reducible apply go_op)
           | (with_reducible apply go_next)
           | ((with_reducible (show evOp _ _ _ _ _ _)); first
             | ((with_reducible (show evOp _ (.move _) _ _ _ _)) ; first | ((with_reducible apply go_mv_int); rfl; rfl) | ((with_reducible apply go_mv_os); rfl; rfl) | ((with_reducible apply go_mv_nilsl); rfl; rfl))
             | ((with_reducible apply go_as))
             | (((with_reducible apply go_cmp); rfl; rfl; rfl; rfl))
             | (((with_reducible apply go_len_own); rfl; rfl; rfl)))
           | ((with_reducible (show evOps _ _ _ _ _ _)); first
             | (with_reducible apply go_nil))
           | ((with_reducible (show evG _ _ _ _ _)); first
             | (with_reducible apply go_seq)
             | (with_reducible apply go_region)
             | (((with_reducible apply go_cond); rfl) <;> (intro h; simp only [h]; try simp only [decide_eq_true_eq, decide_eq_false_iff_not, Bool.not_eq_true', Bool.not_eq_false', Bool.not_true, Bool.not_false] at h; try exact absurd trivial h))
             | (with_reducible apply go_ret)
             | (with_reducible apply go_skipc)
             | (with_reducible apply go_block))
           | (with_reducible apply go_kseq)
           | (with_reducible apply go_kseq_ret)
    all_goals first
      | (exfalso; omega)
      | exact ⟨[.os 0 0 l.length], rfl, rfl, rfl⟩
      | trace_state
  have hz : keepB l 0 = true := rfl
  refine contractM_of mix Try.func110 rfl rfl (by rw [Try.ntmps110]; exact Nat.le_of_ble_eq_true rfl) (by kernel_rfl) (scalR_pts _) rfl ?_; rw [Try.results110, Try.ntmps110]; simp only [argsE, Nat.reduceAdd]
  repeat' first
           | (with_reducible apply go_op)
           | (with_reducible apply go_next)
           | ((with_reducible (show evOp _ _ _ _ _ _)); first
             | ((with_reducible (show evOp _ (.move _) _ _ _ _)) ; first | ((with_reducible apply go_mv_int); rfl; rfl) | ((with_reducible apply go_mv_os); rfl; rfl) | ((with_reducible apply go_mv_nilsl); rfl; rfl))
             | ((with_reducible apply go_as))
             | (((with_reducible apply go_cmp); rfl; rfl; rfl; rfl))
             | (((with_reducible apply go_len_own); rfl; rfl; rfl)))
           | ((with_reducible (show evOps _ _ _ _ _ _)); first
             | (with_reducible apply go_nil))
           | ((with_reducible (show evG _ _ _ _ _)); first
             | (with_reducible apply go_seq)
             | (with_reducible apply go_region)
             | (((with_reducible apply go_cond); rfl) <;> (intro h; simp only [h]; try simp only [decide_eq_true_eq, decide_eq_false_iff_not, Bool.not_eq_true', Bool.not_eq_false', Bool.not_true, Bool.not_false] at h; try exact absurd trivial h))
             | (with_reducible apply go_ret)
             | (with_reducible apply go_skipc)
             | (with_reducible apply go_block))
           | (with_reducible apply go_kseq)
           | (with_reducible apply go_kseq_ret)
  all_goals try (exfalso; omega)
  refine go_count (l.length - 1) (fun i => ⟨[(3, .int .i64 ((i + 1 : Nat) : Int)), (0, .os 0 0 l.length)], [(0, ⟨2, true, l.map encPt⟩)], 32, 61⟩) (fun i => ∀ j, j < i + 1 → keepB l j = true)
    (entailsK_eq (nx := 32) (k := 0) (ns := []) (ks := [3, 0]) [(0, 0)] (by simp) rfl (by simp) (by kernel_rfl)) (fun j hj => keep_0 (by omega)) ?_
  intro i hi hC
  by_cases hlt : i + 1 < l.length
  · have hk := keep_iff (l := l) (i := i + 1) (by omega) hlt
    repeat' first
           | ((with_reducible apply (go_index_oq (i := i))); rfl; rfl; rfl; omega; rfl; rfl; (exact ⟨by omega, by omega⟩); (intro hlt))
           | ((with_reducible apply (go_index_oq (i := (i + 1)))); rfl; rfl; rfl; omega; rfl; rfl; (exact ⟨by omega, by omega⟩); (intro hlt))
           | (with_reducible apply go_op)
           | (with_reducible apply go_next)
           | ((with_reducible (show evOp _ _ _ _ _ _)); first
             | ((with_reducible (show evOp _ (.move _) _ _ _ _)) ; first | ((with_reducible apply go_mv_int); rfl; rfl) | ((with_reducible apply go_mv_os); rfl; rfl))
             | ((with_reducible apply go_as))
             | (((with_reducible apply go_load_om); rfl; rfl; rfl; rfl; rotate_left; assumption))
             | ((with_reducible (show evOp _ (.binOp _ _ _ _ _) _ _ _ _)) ; first | ((with_reducible apply go_cmp); rfl; rfl; rfl; rfl) | ((with_reducible apply go_add); rfl; rfl; rfl; omega) | ((with_reducible apply go_sub); rfl; rfl; rfl; omega) | ((with_reducible apply go_eql_agg); rfl; rfl; rfl; rfl))
             | (((with_reducible apply go_len_own); rfl; rfl; rfl)))
           | ((with_reducible (show evOps _ _ _ _ _ _)); first
             | (with_reducible apply go_nil)
             | ((with_reducible apply go_pre); rfl)
             | (with_reducible apply go_pre_nil)
             | ((with_reducible apply go_suf); rfl)
             | (with_reducible apply go_suf_nil))
           | ((with_reducible (show evG _ _ _ _ _)); first
             | (with_reducible apply go_seq)
             | (with_reducible apply go_region)
             | (((with_reducible apply go_cond); rfl) <;> (intro h; simp only [h]; try simp only [decide_eq_true_eq, decide_eq_false_iff_not, Bool.not_eq_true', Bool.not_eq_false', Bool.not_true, Bool.not_false] at h; try exact absurd trivial h))
             | ((with_reducible apply go_order); kernel_rfl; rfl)
             | (with_reducible apply go_ret)
             | (with_reducible apply go_skipc)
             | (with_reducible apply go_block)
             | (with_reducible apply go_exit))
           | (with_reducible apply go_kseq)
           | (with_reducible apply go_ksuf)
           | (with_reducible apply go_kblock)
           | (with_reducible apply go_kblock_exit)
           | (with_reducible apply go_kseq_exit)
    all_goals try (exfalso; omega)
    · refine go_drop_os rfl rfl rfl rfl rfl ⟨by omega, by omega⟩ ?_
      simp only [Int.toNat_natCast, Nat.zero_add]
      have hdup : keepB l (i + 1) = false := by
        rw [hk, Bool.not_eq_false']
        unfold ptEq
        simp_all
      have hrow : compT l (i + 2) = l.take (i + 1) := by rw [compT_no hdup]; exact compT_all (by omega) (fun j hj => hC j (by omega))
      have hrw : rowsC l (i + 2) = l := by rw [← rowsC_no hdup]; exact rowsC_all (by omega) (fun j hj => hC j (by omega))
      have hkk : (compT l (i + 2)).length = i + 1 := by rw [hrow, List.length_take]; omega
      repeat' first
           | (with_reducible apply go_op)
           | (with_reducible apply go_next)
           | ((with_reducible (show evOp _ _ _ _ _ _)); first
             | ((with_reducible (show evOp _ (.move _) _ _ _ _)) ; first | ((with_reducible apply go_mv_int); rfl; rfl) | ((with_reducible apply go_mv_os); rfl; rfl))
             | ((with_reducible apply go_as)))
           | ((with_reducible (show evOps _ _ _ _ _ _)); first
             | (with_reducible apply go_nil))
           | ((with_reducible (show evG _ _ _ _ _)); first
             | (with_reducible apply go_seq)
             | (with_reducible apply go_region)
             | (with_reducible apply go_block))
           | (with_reducible apply go_kseq)
      refine go_count (l.length - (i + 2)) (fun c => ⟨[(5, .int .i64 ((c + 1 : Nat) : Int)), (4, .os 0 (i + 1) (l.length - (i + 1))), (3, .int .i64 (((compT l (i + 2 + c)).length : Nat) : Int)), (0, .os 0 0 l.length)], [(0, ⟨2, true, (rowsC l (i + 2 + c)).map encPt⟩)], 32, 61⟩) (fun c => (compT l (i + 2 + c)).length ≤ i + 1 + c)
        (entailsK_eq (nx := 32) (k := 0) (ns := []) (ks := [5, 4, 3, 0]) [(0, 0)] (by simp) rfl (by simp) (by simp only [Nat.add_zero]; rw [hkk, hrw]; kernel_rfl)) (by simp only [Nat.add_zero]; omega) ?_
      clear h hlt hk
      intro c hc
      by_cases hlt : i + 2 + c < l.length
      · have hx1 : i + 1 + (c + 1) < l.length := by omega
        have hx2 : i + 1 + c < l.length := by omega
        have hk := keep_iff (l := l) (i := i + 2 + c) (by omega) hlt
        intro hcl
        have hy1 : (compT l (i + 2 + c)).length ≤ i + 1 + (c + 1) := by omega
        have g1 := fun h => rowsC_get (l := l) (m := i + 2 + c) (x := i + 1 + (c + 1)) h hy1 hx1
        have g2 := fun h => rowsC_get (l := l) (m := i + 2 + c) (x := i + 1 + c) h hcl hx2
        have hrl := rowsC_len (l := l) (m := i + 2 + c) (by omega)
        have g3 := fun h => rowsC_set (l := l) (m := i + 2 + c) hlt h
        have g4 := fun h => rowsC_no (l := l) (m := i + 2 + c) h
        have e1 := fun h => congrArg List.length (compT_yes (l := l) (m := i + 2 + c) h)
        have e2 := fun h => congrArg List.length (compT_no (l := l) (m := i + 2 + c) h)
        generalize rowsC l (i + 2 + c) = R at *
        simp only [List.length_append, List.length_singleton] at e1
        generalize (compT l (i + 2 + c)).length = kk at *
        have hl1 : l[i + 1 + (c + 1)] = l[i + 2 + c] := by congr 1; omega
        have hl2 : l[i + 1 + c] = l[i + 2 + c - 1]'(by omega) := by congr 1; omega
        rw [← hl1, ← hl2] at hk
        repeat' first
           | ((with_reducible apply (go_index_oq (i := c))); rfl; rfl; rfl; omega; rfl; rfl; (exact ⟨by omega, by omega⟩); (intro hlt))
           | ((with_reducible apply (go_index_oq (i := (c + 1)))); rfl; rfl; rfl; omega; rfl; rfl; (exact ⟨by omega, by omega⟩); (intro hlt))
           | (with_reducible apply go_op)
           | (with_reducible apply go_next)
           | ((with_reducible (show evOp _ _ _ _ _ _)); first
             | ((with_reducible (show evOp _ (.move _) _ _ _ _)) ; first | ((with_reducible apply go_mv_int); rfl; rfl) | ((with_reducible apply go_mv_os); rfl; rfl))
             | ((with_reducible apply go_as))
             | (((with_reducible apply go_load_om); rfl; rfl; rfl; rfl; rotate_left; assumption))
             | (((with_reducible apply go_index_om); rfl; rfl; rfl; (with_reducible rfl); rfl; rfl; omega; (intro hlt)))
             | ((with_reducible (show evOp _ (.binOp _ _ _ _ _) _ _ _ _)) ; first | ((with_reducible apply go_cmp); rfl; rfl; rfl; rfl) | ((with_reducible apply go_add); rfl; rfl; rfl; omega) | ((with_reducible apply go_sub); rfl; rfl; rfl; omega) | ((with_reducible apply go_neq_agg); rfl; rfl; rfl; rfl))
             | (((with_reducible apply go_len_own); rfl; rfl; rfl)))
           | ((with_reducible (show evOps _ _ _ _ _ _)); first
             | (with_reducible apply go_nil)
             | ((with_reducible apply go_pre); rfl)
             | (with_reducible apply go_pre_nil)
             | ((with_reducible apply go_suf); rfl)
             | (with_reducible apply go_suf_nil))
           | ((with_reducible (show evG _ _ _ _ _)); first
             | (with_reducible apply go_seq)
             | (with_reducible apply go_region)
             | (((with_reducible apply go_cond); rfl) <;> (intro h; simp only [h]; try simp only [decide_eq_true_eq, decide_eq_false_iff_not, Bool.not_eq_true', Bool.not_eq_false', Bool.not_true, Bool.not_false] at h; try exact absurd trivial h))
             | ((with_reducible apply go_order); kernel_rfl; rfl)
             | (with_reducible apply go_skipc)
             | (with_reducible apply go_block)
             | (with_reducible apply go_exit))
           | (with_reducible apply go_kseq)
           | (with_reducible apply go_ksuf)
           | (with_reducible apply go_kblock)
           | (with_reducible apply go_kblock_exit)
           | (with_reducible apply go_kseq_exit)
        all_goals try (exfalso; omega)
        · have hkeep : keepB l (i + 2 + c) = true := by
            rw [hk, ← g1 (by omega), ← g2 (by omega), Bool.not_eq_true']
            exact h
          refine go_store_om (f := encPt) (l := R) (a := R[i + 1 + (c + 1)]'(by omega)) rfl rfl rfl (by omega) rfl rfl rfl rfl (Nat.le_of_ble_eq_true rfl) rfl ?_
          rw [g1 (by omega), hl1, g3 hkeep]
          repeat' first
           | (with_reducible apply go_op)
           | (with_reducible apply go_next)
           | ((with_reducible (show evOp _ _ _ _ _ _)); first
             | (((with_reducible apply go_mv_int); rfl; rfl))
             | ((with_reducible apply go_as))
             | (((with_reducible apply go_add); rfl; rfl; rfl; omega)))
           | ((with_reducible (show evOps _ _ _ _ _ _)); first
             | (with_reducible apply go_nil))
           | ((with_reducible (show evG _ _ _ _ _)); first
             | (with_reducible apply go_region))
           | (with_reducible apply go_kseq)
           | (with_reducible apply go_kblock)
          refine ⟨by omega, by rw [show compT l (i + 2 + (c + 1)) = compT l (i + 2 + c + 1) from rfl, e1 hkeep]; omega, ?_⟩
          rw [show compT l (i + 2 + (c + 1)) = compT l (i + 2 + c + 1) from rfl, e1 hkeep]
          exact entailsK_eq (nx := 32) (k := 0) (ns := []) (ks := [5, 4, 3, 0]) [(0, 0)] (by simp) rfl (by simp) (by kernel_rfl)
        · have hkeep : keepB l (i + 2 + c) = false := by
            rw [hk, ← g1 (by omega), ← g2 (by omega), Bool.not_eq_false']
            exact h
          refine ⟨by omega, by rw [show compT l (i + 2 + (c + 1)) = compT l (i + 2 + c + 1) from rfl, e2 hkeep]; omega, ?_⟩
          rw [show compT l (i + 2 + (c + 1)) = compT l (i + 2 + c + 1) from rfl, e2 hkeep, show rowsC l (i + 2 + (c + 1)) = rowsC l (i + 2 + c + 1) from rfl, ← g4 hkeep]
          exact entailsK_eq (nx := 32) (k := 0) (ns := []) (ks := [5, 4, 3, 0]) [(0, 0)] (by simp) rfl (by simp) (by kernel_rfl)
      · intro hcl
        have e : i + 2 + c = l.length := by omega
        have hrl := rowsC_len (l := l) (m := i + 2 + c) (by omega)
        have ht := rowsC_take l (i + 2 + c)
        have hC' : compT l (i + 2 + c) = compL l := by rw [e]; rfl
        have hle := hcl
        rw [hC'] at ht hle ⊢
        clear hcl hC'
        generalize rowsC l (i + 2 + c) = R at *
        generalize hkk2 : (compL l).length = kk at *
        repeat' first
           | ((with_reducible (show evG _ _ (.region 14 _ _) _ _)); (with_reducible apply go_regionM))
           | ((with_reducible apply goM_clear); rfl; rfl; kernel_rfl; (exact scalR_pts _); (first | omega | (simp; omega)); rfl)
           | ((with_reducible apply go_drop_os); rfl; rfl; rfl; rfl; rfl; omega)
           | (with_reducible apply goM_op)
           | (with_reducible apply goM_next)
           | (with_reducible apply goM_nil)
           | (with_reducible apply go_op)
           | (with_reducible apply go_next)
           | ((with_reducible (show evOp _ _ _ _ _ _)); first
             | ((with_reducible (show evOp _ (.move _) _ _ _ _)) ; first | ((with_reducible apply go_mv_int); rfl; rfl) | ((with_reducible apply go_mv_os); rfl; rfl))
             | ((with_reducible apply go_as))
             | (((with_reducible apply go_index_own); rfl; rfl; rfl; rfl; rfl; omega))
             | (((with_reducible apply go_cmp); rfl; rfl; rfl; rfl))
             | (((with_reducible apply go_len_own); rfl; rfl; rfl))
             | (((with_reducible apply go_take_os); rfl; rfl; rfl; rfl; rfl; omega)))
           | ((with_reducible (show evOps _ _ _ _ _ _)); first
             | (with_reducible apply go_nil)
             | ((with_reducible apply go_pre); rfl))
           | ((with_reducible (show evG _ _ _ _ _)); first
             | (with_reducible apply go_seq)
             | (with_reducible apply go_region)
             | (((with_reducible apply go_cond); rfl) <;> (intro h; simp only [h]; try simp only [decide_eq_true_eq, decide_eq_false_iff_not, Bool.not_eq_true', Bool.not_eq_false', Bool.not_true, Bool.not_false] at h; try exact absurd trivial h))
             | ((with_reducible apply go_order); kernel_rfl; rfl)
             | (with_reducible apply go_ret)
             | (with_reducible apply go_skipc)
             | (with_reducible apply go_block)
             | (with_reducible apply go_exit))
           | (with_reducible apply go_kseq)
           | (with_reducible apply go_kseq_ret)
           | (with_reducible apply go_kblock_ret)
           | (with_reducible apply go_kblock_exit)
           | (with_reducible apply go_kseq_exit)
        all_goals try (exfalso; omega)
        refine ⟨[.os 0 0 kk], rfl, rfl, ?_⟩
        have hh : (R.map encPt).take (0 + ((kk : Nat) : Int).toNat) = (compL l).map encPt := by rw [← ht, List.map_take, Nat.zero_add, Int.toNat_natCast]
        show some (⟨2, true, (R.map encPt).take (0 + ((kk : Nat) : Int).toNat)⟩ : Blk) = _
        rw [hh]
    · refine ⟨by omega, fun j hj => ?_, entailsK_eq (nx := 32) (k := 0) (ns := []) (ks := [3, 0]) [(0, 0)] (by simp) rfl (by simp) (by kernel_rfl)⟩
      by_cases e : j < i + 1
      · exact hC j e
      · obtain rfl : j = i + 1 := by omega
        rw [hk, Bool.not_eq_true']
        unfold ptEq
        simp_all
  · have e : i + 1 = l.length := by omega
    have e2 : compL l = l := by
      unfold compL
      rw [compT_all (Nat.le_refl _) (fun j hj => hC j (by omega))]; exact List.take_length
    rw [e2]
    repeat' first
           | (with_reducible apply go_op)
           | (with_reducible apply go_next)
           | ((with_reducible (show evOp _ _ _ _ _ _)); first
             | ((with_reducible (show evOp _ (.move _) _ _ _ _)) ; first | ((with_reducible apply go_mv_int); rfl; rfl) | ((with_reducible apply go_mv_os); rfl; rfl))
             | ((with_reducible apply go_as))
             | (((with_reducible apply go_load_om); rfl; rfl; rfl; rfl; rotate_left; assumption))
             | ((with_reducible (show evOp _ (.indexAddr _ _ _) _ _ _ _)) ; first | ((with_reducible apply go_index_om); rfl; rfl; rfl; (with_reducible rfl); rfl; rfl; omega; (intro hlt)) | ((with_reducible apply go_index_own); rfl; rfl; rfl; rfl; rfl; omega))
             | ((with_reducible (show evOp _ (.binOp _ _ _ _ _) _ _ _ _)) ; first | ((with_reducible apply go_cmp); rfl; rfl; rfl; rfl) | ((with_reducible apply go_sub); rfl; rfl; rfl; omega))
             | (((with_reducible apply go_len_own); rfl; rfl; rfl)))
           | ((with_reducible (show evOps _ _ _ _ _ _)); first
             | (with_reducible apply go_nil)
             | ((with_reducible apply go_pre); rfl))
           | ((with_reducible (show evG _ _ _ _ _)); first
             | (with_reducible apply go_seq)
             | (with_reducible apply go_region)
             | (((with_reducible apply go_cond); rfl) <;> (intro h; simp only [h]; try simp only [decide_eq_true_eq, decide_eq_false_iff_not, Bool.not_eq_true', Bool.not_eq_false', Bool.not_true, Bool.not_false] at h; try exact absurd trivial h))
             | ((with_reducible apply go_order); kernel_rfl; rfl)
             | (with_reducible apply go_ret)
             | (with_reducible apply go_skipc)
             | (with_reducible apply go_block)
             | (with_reducible apply go_exit))
           | (with_reducible apply go_kseq)
           | (with_reducible apply go_kblock_exit)
           | (with_reducible apply go_kseq_exit)
    all_goals first
      | (exfalso; omega)
      | exact ⟨[.os 0 0 l.length], rfl, rfl, rfl⟩
      | trace_state
end Go.Pv.Geo

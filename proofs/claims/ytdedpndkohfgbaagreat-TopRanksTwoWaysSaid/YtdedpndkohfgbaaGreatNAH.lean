import Derived.Test.YtdedpndkohfgbaaGreatProg
import Derived.Test.YtdedpndkohfgbaaGreatNAG
import Derived.KernelRfl
import Derived.Test.YtdedpndkohfgbaaGreatNAF
import Derived.Test.YtdedpndkohfgbaaGreatNAC
import Derived.Test.YtdedpndkohfgbaaGreatNAD
import Derived.Test.YtdedpndkohfgbaaGreatNAE
/- Part of the proofs over YtdedpndkohfgbaaGreat: PH11, PH12, PH13, PH14, PH16, PH17, S63, V11, U1, V12, R0, R10. -/
set_option linter.unusedVariables false
set_option linter.unusedSimpArgs false
set_option linter.unnecessarySimpa false
open Go Go.Proofs Go.Pv
set_option maxHeartbeats 4000000
set_option maxRecDepth 100000
set_option linter.unusedSimpArgs false
set_option linter.unusedVariables false
namespace Go.Pv.Geo
def shapesD : List D := [.int .i64 10, .clo (.func 125) [] [], .int .i64 8, .clo (.func 126) [] [], .int .i64 2, .clo (.func 127) [] [], .int .i64 3, .clo (.func 128) [] []]
theorem c_shapes : Contract Tryz.prog 94 [] (.ret (.agg shapesD)) := by
  refine contract_of mix Tryz.func94 rfl rfl (by rw [Tryz.ntmps94]; exact Nat.le_of_ble_eq_true rfl) ?_; rw [Tryz.results94, Tryz.ntmps94]; simp only [argsE, Nat.reduceAdd]
  repeat' first
           | (with_reducible apply go_op)
           | (with_reducible apply go_next)
           | ((with_reducible (show evOp _ _ _ _ _ _)); first
             | (((with_reducible apply go_st_agg); rfl; rfl; rfl; rfl; rfl; rfl; rfl))
             | (((with_reducible apply go_build); rfl; rfl))
             | (((with_reducible apply go_alloc); rfl; rfl; rfl)))
           | ((with_reducible (show evOps _ _ _ _ _ _)); first
             | (with_reducible apply go_nil))
           | ((with_reducible (show evG _ _ _ _ _)); first
             | (with_reducible apply go_seq)
             | (with_reducible apply go_region)
             | (with_reducible apply go_ret))
           | (with_reducible apply go_kseq)
           | ((with_reducible apply end_ret); apply fin1; rfl; rfl; rfl)
  all_goals kernel_rfl
theorem c_shapes1 (l : List Pt) : Contract Tryz.prog 125 [.sl (l.map encPt)] (.ret (.bool (decide (l.length < 3)))) := by
  refine contract_of mix Tryz.func125 rfl rfl (by rw [Tryz.ntmps125]; exact Nat.le_of_ble_eq_true rfl) ?_; rw [Tryz.results125, Tryz.ntmps125]; simp only [argsE, Nat.reduceAdd]
  repeat' first
           | (with_reducible apply go_op)
           | (with_reducible apply go_next)
           | ((with_reducible (show evOp _ _ _ _ _ _)); first
             | ((with_reducible (show evOp _ (.move _) _ _ _ _)) ; first | ((with_reducible apply go_mv_bool); rfl; rfl) | ((with_reducible apply go_mv_sl); rfl; rfl))
             | ((with_reducible apply go_as))
             | (((with_reducible apply go_cmp); rfl; rfl; rfl; rfl))
             | (((with_reducible apply go_len); rfl; rfl)))
           | ((with_reducible (show evOps _ _ _ _ _ _)); first
             | (with_reducible apply go_nil))
           | ((with_reducible (show evG _ _ _ _ _)); first
             | (with_reducible apply go_seq)
             | (with_reducible apply go_region)
             | (with_reducible apply go_ret))
           | (with_reducible apply go_kseq)
           | ((with_reducible apply end_bool); rfl)
  all_goals (exact decide_eq_decide.2 (by omega))
theorem c_shapes2 (l : List Pt) : Contract Tryz.prog 126 [.sl (l.map encPt)] (.ret (.bool (decide (40 < l.length)))) := by
  refine contract_of mix Tryz.func126 rfl rfl (by rw [Tryz.ntmps126]; exact Nat.le_of_ble_eq_true rfl) ?_; rw [Tryz.results126, Tryz.ntmps126]; simp only [argsE, Nat.reduceAdd]
  repeat' first
           | (with_reducible apply go_op)
           | (with_reducible apply go_next)
           | ((with_reducible (show evOp _ _ _ _ _ _)); first
             | ((with_reducible (show evOp _ (.move _) _ _ _ _)) ; first | ((with_reducible apply go_mv_bool); rfl; rfl) | ((with_reducible apply go_mv_sl); rfl; rfl))
             | ((with_reducible apply go_as))
             | (((with_reducible apply go_cmp); rfl; rfl; rfl; rfl))
             | (((with_reducible apply go_len); rfl; rfl)))
           | ((with_reducible (show evOps _ _ _ _ _ _)); first
             | (with_reducible apply go_nil))
           | ((with_reducible (show evG _ _ _ _ _)); first
             | (with_reducible apply go_seq)
             | (with_reducible apply go_region)
             | (with_reducible apply go_ret))
           | (with_reducible apply go_kseq)
           | ((with_reducible apply end_bool); rfl)
  all_goals (exact decide_eq_decide.2 (by omega))
theorem c_shapes3 (l : List Pt) (hl : l.length < 1000000000000) : Contract Tryz.prog 127 [.sl (l.map encPt)] (.ret (.bool (l.any fun p => !ptOK p))) := by
  refine contract_of mix Tryz.func127 rfl rfl (by rw [Tryz.ntmps127]; exact Nat.le_of_ble_eq_true rfl) ?_; rw [Tryz.results127, Tryz.ntmps127]; simp only [argsE, Nat.reduceAdd]
  repeat' first
           | (with_reducible apply go_op)
           | (with_reducible apply go_next)
           | ((with_reducible (show evOp _ _ _ _ _ _)); first
             | ((with_reducible (show evOp _ (.move _) _ _ _ _)) ; first | ((with_reducible apply go_mv_bool); rfl; rfl) | ((with_reducible apply go_mv_sl); rfl; rfl))
             | ((with_reducible apply go_as))
             | (((with_reducible apply go_fn_bool); rfl; (exact c_outside l hl); rfl)))
           | ((with_reducible (show evOps _ _ _ _ _ _)); first
             | (with_reducible apply go_nil))
           | ((with_reducible (show evG _ _ _ _ _)); first
             | (with_reducible apply go_seq)
             | (with_reducible apply go_region)
             | (with_reducible apply go_ret))
           | (with_reducible apply go_kseq)
           | ((with_reducible apply end_bool); rfl)
           | (with_reducible rfl)
theorem c_shapes4 (l : List Pt) (h3 : 3 ≤ l.length) (hl : l.length < 1000000000) (hok : ∀ q ∈ l, ptOK q = true) : Contract Tryz.prog 128 [.sl (l.map encPt)] (.ret (.bool (!simpleE l))) := by
  refine contract_of mix Tryz.func128 rfl rfl (by rw [Tryz.ntmps128]; exact Nat.le_of_ble_eq_true rfl) ?_; rw [Tryz.results128, Tryz.ntmps128]; simp only [argsE, Nat.reduceAdd]
  repeat' first
           | (with_reducible apply go_op)
           | (with_reducible apply go_next)
           | ((with_reducible (show evOp _ _ _ _ _ _)); first
             | ((with_reducible (show evOp _ (.move _) _ _ _ _)) ; first | ((with_reducible apply go_mv_bool); rfl; rfl) | ((with_reducible apply go_mv_sl); rfl; rfl))
             | ((with_reducible apply go_as))
             | (((with_reducible apply go_fn_bool); rfl; (exact c_simple l h3 hl hok); rfl))
             | (((with_reducible apply go_not); rfl; rfl)))
           | ((with_reducible (show evOps _ _ _ _ _ _)); first
             | (with_reducible apply go_nil))
           | ((with_reducible (show evG _ _ _ _ _)); first
             | (with_reducible apply go_seq)
             | (with_reducible apply go_region)
             | (with_reducible apply go_ret))
           | (with_reducible apply go_kseq)
           | ((with_reducible apply end_bool); rfl)
           | (with_reducible rfl)
/-- The error of a polygon. -/
def polyE (l : List Pt) : Int := if l.length < 3 then 10 else if 40 < l.length then 8 else if (l.any fun p => !ptOK p) = true then 2 else if simpleE l = true then 0 else 3
theorem poly_ok {l : List Pt} (h : polyE l = 0) : (3 ≤ l.length ∧ l.length ≤ 40) ∧ (∀ p ∈ l, ptOK p = true) ∧ simpleE l = true := by
  unfold polyE at h
  (repeat' split at h) <;> first | (cases h; done) | skip
  rename_i h1 h2 h3 h4
  refine ⟨by omega, fun p hp => ?_, h4⟩
  simp only [List.any_eq_true, not_exists, not_and] at h3
  simpa using h3 p hp
theorem c_CheckPolygon (l : List Pt) : Contract Tryz.prog 66 [.sl (l.map encPt)] (.ret (.int .i64 (polyE l))) := by
  have s1 := c_shapes1 l
  have s2 := c_shapes2 l
  refine contract_of mix Tryz.func66 rfl rfl (by rw [Tryz.ntmps66]; exact Nat.le_of_ble_eq_true rfl) ?_; rw [Tryz.results66, Tryz.ntmps66]; simp only [argsE, Nat.reduceAdd]
  repeat' first
           | (with_reducible apply go_op)
           | (with_reducible apply go_next)
           | ((with_reducible (show evOp _ _ _ _ _ _)); first
             | (((with_reducible apply go_mv_int); rfl; rfl))
             | ((with_reducible apply go_as)))
           | ((with_reducible (show evOps _ _ _ _ _ _)); first
             | (with_reducible apply go_nil))
           | ((with_reducible (show evG _ _ _ _ _)); first
             | (with_reducible apply go_seq)
             | (with_reducible apply go_region))
           | (with_reducible apply go_kseq)
  refine go_call_fn (args := []) (args' := []) rfl c_shapes rfl (Nat.le_of_ble_eq_true rfl) rfl ?_
  repeat' first
           | (with_reducible apply go_op)
           | (with_reducible apply go_next)
           | ((with_reducible (show evOp _ _ _ _ _ _)); first
             | (((with_reducible apply go_mv_int); rfl; rfl)))
           | ((with_reducible (show evOps _ _ _ _ _ _)); first
             | (with_reducible apply go_nil))
           | ((with_reducible (show evG _ _ _ _ _)); first
             | (with_reducible apply go_block))
           | (with_reducible apply go_kseq)
  refine go_count 4 (fun i => ⟨[(6, .int .i64 i), (5, .agg shapesD), (0, .sl (l.map encPt))], [], 0, 16⟩) (fun i => (1 ≤ i → 3 ≤ l.length) ∧ (2 ≤ i → l.length ≤ 40) ∧ (3 ≤ i → ∀ q ∈ l, ptOK q = true) ∧ (4 ≤ i → simpleE l = true))
    (entails_eq (nx := 0) (k := 0) (ns := []) (ks := [6, 5, 0]) [] rfl (by simp) (by kernel_rfl)) ⟨by omega, by omega, by omega, by omega⟩ ?_
  intro i hi hC
  have hc4 : i = 0 ∨ i = 1 ∨ i = 2 ∨ i = 3 ∨ i = 4 := by omega
  rcases hc4 with rfl | rfl | rfl | rfl | rfl
  · repeat' first
           | (with_reducible apply go_op)
           | (with_reducible apply go_next)
           | ((with_reducible (show evOp _ _ _ _ _ _)); first
             | (((with_reducible apply go_mv_sl); rfl; rfl))
             | (((with_reducible apply go_load_own); rfl; rfl; rfl; rfl))
             | (((with_reducible apply go_fieldAddr_own); rfl; rfl; rfl))
             | (((with_reducible apply go_cmp); rfl; rfl; rfl; rfl))
             | (((with_reducible apply go_st_agg); rfl; rfl; rfl; rfl; rfl; rfl; rfl))
             | (((with_reducible apply go_index_agg); rfl; rfl; rfl; omega; rfl))
             | (((with_reducible apply go_alloc); rfl; rfl; rfl)))
           | ((with_reducible (show evOps _ _ _ _ _ _)); first
             | (with_reducible apply go_nil))
           | ((with_reducible (show evG _ _ _ _ _)); first
             | (with_reducible apply go_seq)
             | (with_reducible apply go_region)
             | ((with_reducible apply go_cond_t); rfl; rfl)
             | (with_reducible apply go_skipc)
             | (with_reducible apply go_block))
           | (with_reducible apply go_kseq)
    refine go_clo_bool (g := 125) (ys := []) (d1 := .sl (l.map encPt)) rfl rfl (fun _ _ => rfl) s1 rfl ?_
    repeat' first
           | (with_reducible apply go_op)
           | (with_reducible apply go_next)
           | ((with_reducible (show evOp _ _ _ _ _ _)); first
             | (((with_reducible apply go_mv_int); rfl; rfl))
             | ((with_reducible apply go_as))
             | (((with_reducible apply go_load_own); rfl; rfl; rfl; rfl))
             | (((with_reducible apply go_fieldAddr_own); rfl; rfl; rfl))
             | (((with_reducible apply go_add); rfl; rfl; rfl; omega)))
           | ((with_reducible (show evOps _ _ _ _ _ _)); first
             | (with_reducible apply go_nil))
           | ((with_reducible (show evG _ _ _ _ _)); first
             | (with_reducible apply go_seq)
             | (with_reducible apply go_region)
             | (((with_reducible apply go_cond); rfl) <;> (intro h; simp only [h]; try simp only [decide_eq_true_eq, decide_eq_false_iff_not, Bool.not_eq_true', Bool.not_eq_false', Bool.not_true, Bool.not_false] at h; try exact absurd trivial h))
             | (with_reducible apply go_ret)
             | (with_reducible apply go_skipc))
           | (with_reducible apply go_kseq)
           | (with_reducible apply go_kseq_ret)
           | (with_reducible apply go_kblock)
           | (with_reducible apply go_kblock_ret)
           | ((with_reducible apply end_int); rfl)
    · unfold polyE; rw [if_pos (by omega)]
    · exact ⟨by omega, ⟨by omega, by omega, by omega, by omega⟩, entails_eq (nx := 0) (k := 0) (ns := []) (ks := [6, 5, 0]) [] rfl (by simp) (by kernel_rfl)⟩
  · have h3 := hC.1 (by omega)
    repeat' first
           | (with_reducible apply go_op)
           | (with_reducible apply go_next)
           | ((with_reducible (show evOp _ _ _ _ _ _)); first
             | (((with_reducible apply go_mv_sl); rfl; rfl))
             | (((with_reducible apply go_load_own); rfl; rfl; rfl; rfl))
             | (((with_reducible apply go_fieldAddr_own); rfl; rfl; rfl))
             | (((with_reducible apply go_cmp); rfl; rfl; rfl; rfl))
             | (((with_reducible apply go_st_agg); rfl; rfl; rfl; rfl; rfl; rfl; rfl))
             | (((with_reducible apply go_index_agg); rfl; rfl; rfl; omega; rfl))
             | (((with_reducible apply go_alloc); rfl; rfl; rfl)))
           | ((with_reducible (show evOps _ _ _ _ _ _)); first
             | (with_reducible apply go_nil))
           | ((with_reducible (show evG _ _ _ _ _)); first
             | (with_reducible apply go_seq)
             | (with_reducible apply go_region)
             | ((with_reducible apply go_cond_t); rfl; rfl)
             | (with_reducible apply go_skipc)
             | (with_reducible apply go_block))
           | (with_reducible apply go_kseq)
    refine go_clo_bool (g := 126) (ys := []) (d1 := .sl (l.map encPt)) rfl rfl (fun _ _ => rfl) s2 rfl ?_
    repeat' first
           | (with_reducible apply go_op)
           | (with_reducible apply go_next)
           | ((with_reducible (show evOp _ _ _ _ _ _)); first
             | (((with_reducible apply go_mv_int); rfl; rfl))
             | ((with_reducible apply go_as))
             | (((with_reducible apply go_load_own); rfl; rfl; rfl; rfl))
             | (((with_reducible apply go_fieldAddr_own); rfl; rfl; rfl))
             | (((with_reducible apply go_add); rfl; rfl; rfl; omega)))
           | ((with_reducible (show evOps _ _ _ _ _ _)); first
             | (with_reducible apply go_nil))
           | ((with_reducible (show evG _ _ _ _ _)); first
             | (with_reducible apply go_seq)
             | (with_reducible apply go_region)
             | (((with_reducible apply go_cond); rfl) <;> (intro h; simp only [h]; try simp only [decide_eq_true_eq, decide_eq_false_iff_not, Bool.not_eq_true', Bool.not_eq_false', Bool.not_true, Bool.not_false] at h; try exact absurd trivial h))
             | (with_reducible apply go_ret)
             | (with_reducible apply go_skipc))
           | (with_reducible apply go_kseq)
           | (with_reducible apply go_kseq_ret)
           | (with_reducible apply go_kblock)
           | (with_reducible apply go_kblock_ret)
           | ((with_reducible apply end_int); rfl)
    · unfold polyE; rw [if_neg (by omega), if_pos (by omega)]
    · exact ⟨by omega, ⟨by omega, by omega, by omega, by omega⟩, entails_eq (nx := 0) (k := 0) (ns := []) (ks := [6, 5, 0]) [] rfl (by simp) (by kernel_rfl)⟩
  · have h3 := hC.1 (by omega)
    have h4 := hC.2.1 (by omega)
    repeat' first
           | (with_reducible apply go_op)
           | (with_reducible apply go_next)
           | ((with_reducible (show evOp _ _ _ _ _ _)); first
             | (((with_reducible apply go_mv_sl); rfl; rfl))
             | (((with_reducible apply go_load_own); rfl; rfl; rfl; rfl))
             | (((with_reducible apply go_fieldAddr_own); rfl; rfl; rfl))
             | (((with_reducible apply go_cmp); rfl; rfl; rfl; rfl))
             | (((with_reducible apply go_st_agg); rfl; rfl; rfl; rfl; rfl; rfl; rfl))
             | (((with_reducible apply go_index_agg); rfl; rfl; rfl; omega; rfl))
             | (((with_reducible apply go_alloc); rfl; rfl; rfl)))
           | ((with_reducible (show evOps _ _ _ _ _ _)); first
             | (with_reducible apply go_nil))
           | ((with_reducible (show evG _ _ _ _ _)); first
             | (with_reducible apply go_seq)
             | (with_reducible apply go_region)
             | ((with_reducible apply go_cond_t); rfl; rfl)
             | (with_reducible apply go_skipc)
             | (with_reducible apply go_block))
           | (with_reducible apply go_kseq)
    refine go_clo_bool (g := 127) (ys := []) (d1 := .sl (l.map encPt)) rfl rfl (fun _ _ => rfl) (c_shapes3 l (by omega)) rfl ?_
    repeat' first
           | (with_reducible apply go_op)
           | (with_reducible apply go_next)
           | ((with_reducible (show evOp _ _ _ _ _ _)); first
             | (((with_reducible apply go_mv_int); rfl; rfl))
             | ((with_reducible apply go_as))
             | (((with_reducible apply go_load_own); rfl; rfl; rfl; rfl))
             | (((with_reducible apply go_fieldAddr_own); rfl; rfl; rfl))
             | (((with_reducible apply go_add); rfl; rfl; rfl; omega)))
           | ((with_reducible (show evOps _ _ _ _ _ _)); first
             | (with_reducible apply go_nil))
           | ((with_reducible (show evG _ _ _ _ _)); first
             | (with_reducible apply go_seq)
             | (with_reducible apply go_region)
             | (((with_reducible apply go_cond); rfl) <;> (intro h; simp only [h]; try simp only [decide_eq_true_eq, decide_eq_false_iff_not, Bool.not_eq_true', Bool.not_eq_false', Bool.not_true, Bool.not_false] at h; try exact absurd trivial h))
             | (with_reducible apply go_ret)
             | (with_reducible apply go_skipc))
           | (with_reducible apply go_kseq)
           | (with_reducible apply go_kseq_ret)
           | (with_reducible apply go_kblock)
           | (with_reducible apply go_kblock_ret)
           | ((with_reducible apply end_int); rfl)
    · unfold polyE; rw [if_neg (by omega), if_neg (by omega), if_pos (by assumption)]
    · refine ⟨by omega, ⟨by omega, by omega, fun _ q hq => ?_, by omega⟩, entails_eq (nx := 0) (k := 0) (ns := []) (ks := [6, 5, 0]) [] rfl (by simp) (by kernel_rfl)⟩
      have := List.any_eq_false.1 ‹(l.any fun p => !ptOK p) = false› q hq
      simpa using this
  · have h3 := hC.1 (by omega)
    have h4 := hC.2.1 (by omega)
    have h5 := hC.2.2.1 (by omega)
    have hn : ¬ (l.any fun p => !ptOK p) = true := by
      simp only [List.any_eq_true, not_exists, not_and]
      intro q hq; rw [h5 q hq]; simp
    repeat' first
           | (with_reducible apply go_op)
           | (with_reducible apply go_next)
           | ((with_reducible (show evOp _ _ _ _ _ _)); first
             | (((with_reducible apply go_mv_sl); rfl; rfl))
             | (((with_reducible apply go_load_own); rfl; rfl; rfl; rfl))
             | (((with_reducible apply go_fieldAddr_own); rfl; rfl; rfl))
             | (((with_reducible apply go_cmp); rfl; rfl; rfl; rfl))
             | (((with_reducible apply go_st_agg); rfl; rfl; rfl; rfl; rfl; rfl; rfl))
             | (((with_reducible apply go_index_agg); rfl; rfl; rfl; omega; rfl))
             | (((with_reducible apply go_alloc); rfl; rfl; rfl)))
           | ((with_reducible (show evOps _ _ _ _ _ _)); first
             | (with_reducible apply go_nil))
           | ((with_reducible (show evG _ _ _ _ _)); first
             | (with_reducible apply go_seq)
             | (with_reducible apply go_region)
             | ((with_reducible apply go_cond_t); rfl; rfl)
             | (with_reducible apply go_skipc)
             | (with_reducible apply go_block))
           | (with_reducible apply go_kseq)
    refine go_clo_bool (g := 128) (ys := []) (d1 := .sl (l.map encPt)) rfl rfl (fun _ _ => rfl) (c_shapes4 l h3 (by omega) h5) rfl ?_
    repeat' first
           | (with_reducible apply go_op)
           | (with_reducible apply go_next)
           | ((with_reducible (show evOp _ _ _ _ _ _)); first
             | (((with_reducible apply go_mv_int); rfl; rfl))
             | ((with_reducible apply go_as))
             | (((with_reducible apply go_load_own); rfl; rfl; rfl; rfl))
             | (((with_reducible apply go_fieldAddr_own); rfl; rfl; rfl))
             | (((with_reducible apply go_add); rfl; rfl; rfl; omega)))
           | ((with_reducible (show evOps _ _ _ _ _ _)); first
             | (with_reducible apply go_nil))
           | ((with_reducible (show evG _ _ _ _ _)); first
             | (with_reducible apply go_seq)
             | (with_reducible apply go_region)
             | (((with_reducible apply go_cond); rfl) <;> (intro h; simp only [h]; try simp only [decide_eq_true_eq, decide_eq_false_iff_not, Bool.not_eq_true', Bool.not_eq_false', Bool.not_true, Bool.not_false] at h; try exact absurd trivial h))
             | (with_reducible apply go_ret)
             | (with_reducible apply go_skipc))
           | (with_reducible apply go_kseq)
           | (with_reducible apply go_kseq_ret)
           | (with_reducible apply go_kblock)
           | (with_reducible apply go_kblock_ret)
           | ((with_reducible apply end_int); rfl)
    all_goals first
      | (unfold polyE; rw [if_neg (by omega), if_neg (by omega), if_neg hn, if_neg (by rw [‹simpleE l = false›]; simp)])
      | (exact ⟨by omega, ⟨by omega, by omega, fun _ => h5, fun _ => by simp_all⟩, entails_eq (nx := 0) (k := 0) (ns := []) (ks := [6, 5, 0]) [] rfl (by simp) (by kernel_rfl)⟩)
      | trace_state
  · have h3 := hC.1 (by omega)
    have h4 := hC.2.1 (by omega)
    have h5 := hC.2.2.1 (by omega)
    have h6 := hC.2.2.2 (by omega)
    have hn : ¬ (l.any fun p => !ptOK p) = true := by
      simp only [List.any_eq_true, not_exists, not_and]
      intro q hq; rw [h5 q hq]; simp
    repeat' first
           | (with_reducible apply go_op)
           | (with_reducible apply go_next)
           | ((with_reducible (show evOp _ _ _ _ _ _)); first
             | (((with_reducible apply go_mv_int); rfl; rfl))
             | ((with_reducible apply go_as))
             | (((with_reducible apply go_cmp); rfl; rfl; rfl; rfl)))
           | ((with_reducible (show evOps _ _ _ _ _ _)); first
             | (with_reducible apply go_nil))
           | ((with_reducible (show evG _ _ _ _ _)); first
             | (with_reducible apply go_seq)
             | (with_reducible apply go_region)
             | ((with_reducible apply go_cond_f); rfl; rfl)
             | (with_reducible apply go_ret)
             | (with_reducible apply go_exit))
           | (with_reducible apply go_kseq)
           | (with_reducible apply go_kblock_exit)
           | (with_reducible apply go_kseq_exit)
           | ((with_reducible apply end_int); rfl)
    all_goals first
      | (unfold polyE; rw [if_neg (by omega), if_neg (by omega), if_neg hn, if_pos h6])
      | trace_state
end Go.Pv.Geo

open Go Go.Proofs Go.Pv
set_option maxHeartbeats 4000000
set_option maxRecDepth 100000
set_option linter.unusedSimpArgs false
set_option linter.unusedVariables false
namespace Go.Pv.Geo
theorem on_first (a b : Pt) : onE a b a = true := by
  rw [onE, decide_eq_true_eq]
  exact ⟨by simp [crossE], by omega, by omega⟩
theorem meet_first (a b d : Pt) : meetE a b a d = true := by simp [meetE, on_first]
theorem simple_dup {l : List Pt} {k i : Nat} (hk : k < i) (hi : i < l.length) (h : l[i] = l[k]) : simpleE l = false := by
  have e1 : cornerP l k = l[k] := cornerP_lt (by omega)
  have e2 : cornerP l i = l[i] := cornerP_lt hi
  by_cases h1 : i = k + 1
  · subst h1
    exact simple_turn (i := k) (by omega) (by simp only [turnBad]; rw [e1, e2, h, ptEq_iff.2 rfl]; simp)
  by_cases h2 : (i + 1) % l.length = k
  · have hn : i + 1 = l.length := by
      rcases Nat.lt_or_ge (i + 1) l.length with hlt | hge
      · rw [Nat.mod_eq_of_lt hlt] at h2; omega
      · omega
    rw [hn, Nat.mod_self] at h2
    subst h2
    have e3 : cornerP l (i + 1) = l[0] := by
      rw [hn, cornerP_get (by omega)]; simp
    exact simple_turn (i := i) hi (by simp only [turnBad]; rw [e2, e3, h, ptEq_iff.2 rfl]; simp)
  · exact simple_pair (i := k) (k := i) (by omega) hi (by omega) (by
      simp only [pairBad, Bool.and_eq_true, decide_eq_true_eq]
      refine ⟨h2, ?_⟩
      rw [e1, e2, h]; exact meet_first _ _ _)
def rturn (l : List Pt) (i : Nat) : Bool := onE (cornerP l i) (cornerP l (i + 1)) (cornerP l (i + 2)) || onE (cornerP l (i + 1)) (cornerP l (i + 2)) (cornerP l i)
theorem rturn_bad {l : List Pt} {i : Nat} (h : rturn l i = true) : turnBad l i = true := by
  simp only [rturn, turnBad, Bool.or_eq_true] at *; rcases h with h | h <;> simp [h]
theorem turn_ok {l : List Pt} {i : Nat} (h3 : 3 ≤ l.length) (hi : i < l.length) (hd : ∀ i (hi : i < l.length), ∀ k (hk : k < i), l[i] ≠ l[k]) (h : rturn l i = false) : turnBad l i = false := by
  simp only [rturn, turnBad, Bool.or_eq_false_iff] at *
  refine ⟨⟨?_, h.1⟩, h.2⟩
  rw [Bool.eq_false_iff]
  intro he
  have he := ptEq_iff.1 he
  rw [cornerP_lt hi, cornerP_get (by omega)] at he
  rcases Nat.lt_or_ge (i + 1) l.length with hlt | hge
  · simp only [Nat.mod_eq_of_lt hlt] at he
    exact hd (i + 1) hlt i (by omega) he.symm
  · have hn : i + 1 = l.length := by omega
    simp only [hn, Nat.mod_self] at he
    exact hd i hi 0 (by omega) he

end Go.Pv.Geo

open Go Go.Proofs Go.Pv
set_option maxHeartbeats 4000000
set_option maxRecDepth 100000
set_option linter.unusedSimpArgs false
set_option linter.unusedVariables false
namespace Go.Pv.Geo
def sumTo (f : Nat → Int) : Nat → Int
  | 0 => 0
  | i + 1 => sumTo f i + f i
theorem sumTo_bd {f : Nat → Int} {B : Int} (h : ∀ i, -B ≤ f i ∧ f i ≤ B) : ∀ n : Nat, -(B * n) ≤ sumTo f n ∧ sumTo f n ≤ B * n
  | 0 => by simp [sumTo]
  | n + 1 => by
    have ih := sumTo_bd h n
    have := h n
    have e : B * ((n + 1 : Nat) : Int) = B * n + B := by rw [show ((n + 1 : Nat) : Int) = (n : Int) + 1 by rfl, Int.mul_add, Int.mul_one]
    simp only [sumTo]
    omega
def areaT (l : List Pt) (i : Nat) : Int := crossE (cornerP l 0) (cornerP l i) (cornerP l (i + 1))
def areaS (l : List Pt) : Int := sumTo (areaT l) l.length
def areaE (l : List Pt) : Int := absE (areaS l)
theorem areaT_bd {l : List Pt} (h0 : 0 < l.length) (hok : ∀ p ∈ l, ptOK p = true) (i : Nat) : -8000000000000 ≤ areaT l i ∧ areaT l i ≤ 8000000000000 :=
  crossE_bd (hok _ (cornerP_mem h0 _)) (hok _ (cornerP_mem h0 _)) (hok _ (cornerP_mem h0 _))
theorem areaS_bd {l : List Pt} (h0 : 0 < l.length) (h40 : l.length ≤ 40) (hok : ∀ p ∈ l, ptOK p = true) {i : Nat} (hi : i ≤ 40) : -320000000000000 ≤ sumTo (areaT l) i ∧ sumTo (areaT l) i ≤ 320000000000000 := by
  have := sumTo_bd (areaT_bd h0 hok) i
  omega
theorem max_abs (n : Int) : max n (0 - n) = absE n := by unfold absE; split <;> omega
end Go.Pv.Geo

namespace Go.Pv.Geo
/- Polygons, turned over and begun elsewhere: plain. -/
theorem sumTo_congr {f g : Nat → Int} : ∀ {n : Nat}, (∀ i, i < n → f i = g i) → sumTo f n = sumTo g n
  | 0, _ => rfl
  | n + 1, h => by simp only [sumTo]; rw [sumTo_congr fun i hi => h i (by omega), h n (by omega)]
theorem sumTo_front (f : Nat → Int) : ∀ n : Nat, sumTo f (n + 1) = f 0 + sumTo (fun i => f (i + 1)) n
  | 0 => by simp [sumTo]
  | n + 1 => by
    have ih := sumTo_front f n
    rw [sumTo, ih]
    simp only [sumTo]
    omega
theorem sumTo_rev (f : Nat → Int) : ∀ n : Nat, sumTo (fun j => f (n - 1 - j)) n = sumTo f n
  | 0 => rfl
  | n + 1 => by
    rw [sumTo_front, sumTo]
    have : sumTo (fun i => f (n + 1 - 1 - (i + 1))) n = sumTo (fun j => f (n - 1 - j)) n := sumTo_congr fun i hi => by rw [show n + 1 - 1 - (i + 1) = n - 1 - i by omega]
    rw [this, sumTo_rev f n]
    simp only [Nat.add_sub_cancel, Nat.sub_zero]
    omega
theorem sumTo_step (g : Nat → Int) (n : Nat) : sumTo (fun i => g (i + 1)) n = sumTo g n - g 0 + g n := by
  have := sumTo_front g n
  simp only [sumTo] at this
  omega
theorem sumTo_shift {f : Nat → Int} {n : Nat} (h : ∀ i, f (i + n) = f i) : ∀ s : Nat, sumTo (fun i => f (i + s)) n = sumTo f n
  | 0 => rfl
  | s + 1 => by
    have ih := sumTo_shift h s
    have := sumTo_step (fun i => f (i + s)) n
    have e : sumTo (fun i => f (i + (s + 1))) n = sumTo (fun i => f (i + 1 + s)) n := sumTo_congr fun i _ => by rw [show i + (s + 1) = i + 1 + s by omega]
    rw [e, this, ih]
    have := h s
    rw [Nat.add_comm n s, this, Nat.zero_add]
    omega
theorem sumTo_neg (f : Nat → Int) : ∀ n : Nat, sumTo (fun i => -f i) n = -sumTo f n
  | 0 => rfl
  | n + 1 => by simp only [sumTo]; rw [sumTo_neg f n]; omega
theorem sumTo_sub (f g : Nat → Int) : ∀ n : Nat, sumTo (fun i => f i - g i) n = sumTo f n - sumTo g n
  | 0 => rfl
  | n + 1 => by simp only [sumTo]; rw [sumTo_sub f g n]; omega

theorem corner_mod {l : List Pt} {i j : Nat} (h : i % l.length = j % l.length) : cornerP l i = cornerP l j := by unfold cornerP; rw [h]
theorem corner_per (l : List Pt) (i : Nat) : cornerP l (i + l.length) = cornerP l i := corner_mod (by simp)
/-- The corners the other way round, from another one on. -/
def turnL (l : List Pt) (k : Nat) : List Pt := (List.range l.length).map fun j => cornerP l (l.length - 1 - j + k)
theorem turn_len (l : List Pt) (k : Nat) : (turnL l k).length = l.length := by simp [turnL]
def mT (l : List Pt) (k j : Nat) : Nat := l.length - 1 - j % l.length + k
theorem corner_turn {l : List Pt} (h0 : 0 < l.length) (k j : Nat) : cornerP (turnL l k) j = cornerP l (mT l k j) := by
  rw [cornerP_get (by rw [turn_len]; exact h0)]
  simp [turnL, mT]
theorem mod_lt' {n : Nat} (h0 : 0 < n) (j : Nat) : (j + 1) % n = if j % n + 1 = n then 0 else j % n + 1 := by
  have h := Nat.mod_lt j h0
  rw [Nat.add_mod]
  split
  · rename_i e
    rcases Nat.lt_or_ge 1 n with h1 | h1
    · rw [Nat.mod_eq_of_lt h1, e, Nat.mod_self]
    · have : n = 1 := by omega
      subst this; simp [Nat.mod_one]
  · rename_i e
    rw [Nat.mod_eq_of_lt (show 1 < n by omega), Nat.mod_eq_of_lt (by omega)]
theorem mT_step {l : List Pt} (h0 : 0 < l.length) (k j : Nat) : mT l k (j + 1) % l.length = (mT l k j + l.length - 1) % l.length := by
  have h := Nat.mod_lt j h0
  unfold mT
  rw [mod_lt' h0]
  split
  · rename_i e
    rw [show l.length - 1 - 0 + k = l.length - 1 - j % l.length + k + l.length - 1 by omega]
  · rename_i e
    rw [show l.length - 1 - j % l.length + k + l.length - 1 = (l.length - 1 - (j % l.length + 1) + k) + l.length by omega, Nat.add_mod_right]
theorem corner_turn1 {l : List Pt} (h0 : 0 < l.length) (k j : Nat) : cornerP (turnL l k) (j + 1) = cornerP l (mT l k j + l.length - 1) := by
  rw [corner_turn h0]; exact corner_mod (mT_step h0 k j)
theorem corner_turn2 {l : List Pt} (h0 : 2 ≤ l.length) (k j : Nat) : cornerP (turnL l k) (j + 2) = cornerP l (mT l k j + l.length - 2) := by
  rw [corner_turn (by omega)]
  refine corner_mod ?_
  rw [mT_step (by omega) k (j + 1)]
  have := mT_step (l := l) (by omega) k j
  have e1 : mT l k (j + 1) + l.length - 1 = mT l k (j + 1) + (l.length - 1) := by omega
  rw [e1, Nat.add_mod, this, ← Nat.add_mod]
  have e2 : mT l k j + l.length - 1 + (l.length - 1) = mT l k j + l.length - 2 + l.length := by omega
  rw [e2, Nat.add_mod_right]

theorem on_swap' (a b p : Pt) : onE b a p = onE a b p := by
  have h : crossE b a p = -crossE a b p := by simp only [crossE]; grind
  rw [Bool.eq_iff_iff]
  simp only [onE, decide_eq_true_eq, h]
  omega
theorem sgn_neg (n : Int) : signE (-n) = -signE n := by unfold signE; (repeat' split) <;> omega
theorem meet_rev (a b c d : Pt) : meetE b a d c = meetE a b c d := by
  have h1 : crossE b a d = -crossE a b d := by simp only [crossE]; grind
  have h2 : crossE b a c = -crossE a b c := by simp only [crossE]; grind
  have h3 : crossE d c b = -crossE c d b := by simp only [crossE]; grind
  have h4 : crossE d c a = -crossE c d a := by simp only [crossE]; grind
  unfold meetE
  rw [on_swap' a b, on_swap' a b, on_swap' c d, on_swap' c d, h1, h2, h3, h4, sgn_neg, sgn_neg, sgn_neg, sgn_neg, Int.neg_mul_neg, Int.neg_mul_neg, Int.mul_comm (signE (crossE a b d)), Int.mul_comm (signE (crossE c d b))]
  cases onE a b c <;> cases onE a b d <;> cases onE c d a <;> cases onE c d b <;> simp
theorem meet_comm (a b c d : Pt) : meetE c d a b = meetE a b c d := by
  unfold meetE
  cases onE a b c <;> cases onE a b d <;> cases onE c d a <;> cases onE c d b <;> simp [Bool.and_comm]
theorem simple_inv {l : List Pt} (h : simpleE l = true) : (∀ i, i < l.length → turnBad l i = false) ∧ ∀ i, i < l.length → ∀ k, k < l.length → i + 2 ≤ k → pairBad l i k = false := by
  rw [simpleE, List.all_eq_true] at h
  refine ⟨fun i hi => ?_, fun i hi k hk hik => ?_⟩
  · have := h i (List.mem_range.2 hi)
    simp only [Bool.and_eq_true, Bool.not_eq_true'] at this
    exact this.1
  · have := h i (List.mem_range.2 hi)
    simp only [Bool.and_eq_true, List.all_eq_true] at this
    have := this.2 k (List.mem_range.2 hk)
    simpa [hik] using this
theorem meet_any {l : List Pt} (h0 : 0 < l.length) (h : simpleE l = true) (i k : Nat) (h1 : i % l.length ≠ k % l.length) (h2 : (i + 1) % l.length ≠ k % l.length) (h3 : (k + 1) % l.length ≠ i % l.length) :
    meetE (cornerP l i) (cornerP l (i + 1)) (cornerP l k) (cornerP l (k + 1)) = false := by
  have key : ∀ i k : Nat, i < l.length → k < l.length → i < k → (i + 1) % l.length ≠ k → (k + 1) % l.length ≠ i → meetE (cornerP l i) (cornerP l (i + 1)) (cornerP l k) (cornerP l (k + 1)) = false := by
    intro i k hi hk hik h2 h3
    have hik2 : i + 2 ≤ k := by
      rcases Nat.lt_or_ge (i + 1) k with h | h
      · omega
      · have : k = i + 1 := by omega
        subst this
        rw [Nat.mod_eq_of_lt hk] at h2
        exact (h2 rfl).elim
    have := (simple_inv h).2 i hi k hk hik2
    simp only [pairBad] at this
    rw [decide_eq_true h3, Bool.true_and] at this
    exact this
  have hi := Nat.mod_lt i h0
  have hk := Nat.mod_lt k h0
  have e1 : cornerP l i = cornerP l (i % l.length) := corner_mod (by rw [Nat.mod_mod])
  have e2 : cornerP l k = cornerP l (k % l.length) := corner_mod (by rw [Nat.mod_mod])
  have f1 : (i % l.length + 1) % l.length = (i + 1) % l.length := by rw [Nat.add_mod, Nat.mod_mod, ← Nat.add_mod]
  have f2 : (k % l.length + 1) % l.length = (k + 1) % l.length := by rw [Nat.add_mod, Nat.mod_mod, ← Nat.add_mod]
  have e3 : cornerP l (i + 1) = cornerP l (i % l.length + 1) := corner_mod f1.symm
  have e4 : cornerP l (k + 1) = cornerP l (k % l.length + 1) := corner_mod f2.symm
  rw [e1, e2, e3, e4]
  rcases Nat.lt_or_ge (i % l.length) (k % l.length) with hlt | hge
  · exact key _ _ hi hk hlt (by rw [f1]; exact h2) (by rw [f2]; exact h3)
  · rw [meet_comm]
    exact key _ _ hk hi (by omega) (by rw [f2]; exact h3) (by rw [f1]; exact h2)
theorem mod_ne {n m d : Nat} (h : 0 < d) (h' : d < n) : (m + d) % n ≠ m % n := by
  intro e
  have := Nat.sub_mod_eq_zero_of_mod_eq e
  rw [Nat.add_sub_cancel_left, Nat.mod_eq_of_lt h'] at this
  omega
theorem turn_mod {l : List Pt} {i j : Nat} (h : i % l.length = j % l.length) : turnBad l i = turnBad l j := by
  have h1 : (i + 1) % l.length = (j + 1) % l.length := by rw [Nat.add_mod, h, ← Nat.add_mod]
  have h2 : (i + 2) % l.length = (j + 2) % l.length := by rw [Nat.add_mod, h, ← Nat.add_mod]
  unfold turnBad
  rw [corner_mod h, corner_mod h1, corner_mod h2]
theorem turn_any {l : List Pt} (h0 : 0 < l.length) (h : simpleE l = true) (i : Nat) : turnBad l i = false := by
  rw [turn_mod (show i % l.length = (i % l.length) % l.length by rw [Nat.mod_mod])]
  exact (simple_inv h).1 _ (Nat.mod_lt _ h0)
theorem ptEq_comm (a b : Pt) : ptEq a b = ptEq b a := by
  rw [Bool.eq_iff_iff, ptEq_iff, ptEq_iff]; exact eq_comm

theorem simple_turned {l : List Pt} (h3 : 3 ≤ l.length) (h : simpleE l = true) (k : Nat) : simpleE (turnL l k) = true := by
  have h0 : 0 < l.length := by omega
  refine simple_yes (fun j hj => ?_) fun i hi j hj hij => ?_
  · rw [turn_len] at hj
    unfold turnBad
    rw [corner_turn h0, corner_turn1 h0, corner_turn2 (by omega)]
    have t1 := turn_any h0 h (mT l k j + l.length - 2)
    have t2 := turn_any h0 h (mT l k j + l.length - 1)
    unfold turnBad at t1 t2
    rw [show mT l k j + l.length - 2 + 1 = mT l k j + l.length - 1 by omega, show mT l k j + l.length - 2 + 2 = mT l k j + l.length by omega, corner_per] at t1
    rw [show mT l k j + l.length - 1 + 1 = mT l k j + l.length by omega, corner_per] at t2
    simp only [Bool.or_eq_false_iff] at t1 t2 ⊢
    refine ⟨⟨?_, ?_⟩, ?_⟩
    · rw [ptEq_comm]; exact t2.1.1
    · rw [on_swap']; exact t1.2
    · rw [on_swap']; exact t1.1.2
  · rw [turn_len] at hi hj
    unfold pairBad
    rw [turn_len, corner_turn h0, corner_turn1 h0, corner_turn h0, corner_turn1 h0]
    by_cases hc : (j + 1) % l.length = i
    · simp [hc]
    · rw [decide_eq_true hc, Bool.true_and]
      have e1 : mT l k i = l.length - 1 - i + k := by unfold mT; rw [Nat.mod_eq_of_lt hi]
      have e2 : mT l k j = l.length - 1 - j + k := by unfold mT; rw [Nat.mod_eq_of_lt hj]
      have hd : j - i ≤ l.length - 2 := by
        rcases Nat.lt_or_ge (j + 1) l.length with hlt | hge
        · omega
        · have : j + 1 = l.length := by omega
          rw [this, Nat.mod_self] at hc
          omega
      have hm := meet_any h0 h (mT l k i + l.length - 1) (mT l k j + l.length - 1) ?_ ?_ ?_
      · rw [show mT l k i + l.length - 1 + 1 = mT l k i + l.length by omega, show mT l k j + l.length - 1 + 1 = mT l k j + l.length by omega, corner_per, corner_per] at hm
        rw [← meet_rev]; exact hm
      · rw [show mT l k i + l.length - 1 = mT l k j + l.length - 1 + (j - i) by omega]
        exact mod_ne (by omega) (by omega)
      · rw [show mT l k i + l.length - 1 + 1 = mT l k j + l.length - 1 + (j - i + 1) by omega]
        exact mod_ne (by omega) (by omega)
      · rw [show mT l k i + l.length - 1 = mT l k j + l.length - 1 + 1 + (j - i - 1) by omega]
        exact (mod_ne (by omega) (by omega)).symm

def wE (p q : Pt) : Int := p.x * q.y - p.y * q.x
theorem cross_w (o a b : Pt) : crossE o a b = wE a b - (wE o b - wE o a) := by simp only [crossE, wE]; grind
theorem area_w {l : List Pt} : areaS l = sumTo (fun i => wE (cornerP l i) (cornerP l (i + 1))) l.length := by
  have e : areaS l = sumTo (fun i => wE (cornerP l i) (cornerP l (i + 1)) - (wE (cornerP l 0) (cornerP l (i + 1)) - wE (cornerP l 0) (cornerP l i))) l.length :=
    sumTo_congr fun i _ => cross_w _ _ _
  rw [e, sumTo_sub, sumTo_sub, sumTo_step (fun i => wE (cornerP l 0) (cornerP l i))]
  have : cornerP l l.length = cornerP l 0 := by have := corner_per l 0; rwa [Nat.zero_add] at this
  rw [this]
  omega
theorem w_swap (p q : Pt) : wE p q = -wE q p := by simp only [wE]; grind
theorem area_turned {l : List Pt} (h3 : 3 ≤ l.length) (k : Nat) : areaS (turnL l k) = -areaS l := by
  have h0 : 0 < l.length := by omega
  rw [area_w, area_w, turn_len]
  let W : Nat → Int := fun i => wE (cornerP l i) (cornerP l (i + 1))
  have hper : ∀ i, W (i + l.length) = W i := fun i => by
    simp only [W]
    rw [corner_per, show i + l.length + 1 = (i + 1) + l.length by omega, corner_per]
  have e : sumTo (fun j => wE (cornerP (turnL l k) j) (cornerP (turnL l k) (j + 1))) l.length = sumTo (fun j => -(fun t => W (t + (l.length - 1 + k))) (l.length - 1 - j)) l.length := by
    refine sumTo_congr fun j hj => ?_
    rw [corner_turn h0, corner_turn1 h0, w_swap]
    have e1 : mT l k j = l.length - 1 - j + k := by unfold mT; rw [Nat.mod_eq_of_lt hj]
    simp only [W]
    rw [show l.length - 1 - j + (l.length - 1 + k) = mT l k j + l.length - 1 by omega, show mT l k j + l.length - 1 + 1 = mT l k j + l.length by omega, corner_per]
  rw [e, sumTo_neg, sumTo_rev (fun t => W (t + (l.length - 1 + k))), sumTo_shift hper]
theorem poly_turned {l : List Pt} (h : polyE l = 0) (k : Nat) : polyE (turnL l k) = 0 ∧ areaE (turnL l k) = areaE l := by
  obtain ⟨⟨h3, h40⟩, hok, hs⟩ := poly_ok h
  refine ⟨?_, ?_⟩
  · unfold polyE
    rw [turn_len, if_neg (by omega), if_neg (by omega), if_neg, if_pos (simple_turned h3 hs k)]
    simp only [List.any_eq_true, not_exists, not_and]
    intro p hp
    obtain ⟨j, hj, rfl⟩ := List.mem_map.1 hp
    rw [hok _ (cornerP_mem (by omega) _)]; simp
  · unfold areaE
    rw [area_turned h3]
    unfold absE; (repeat' split) <;> omega
end Go.Pv.Geo

namespace Go.Pv.Geo
/- The parity of the edges to the right of a point is that of the edges above it: plain. -/
/-- Is an edge met by the ray to the right; above? -/
def rightX (a b p : Pt) : Bool :=
  let u := if b.y < a.y then b else a
  let v := if b.y < a.y then a else b
  decide ((u.y ≤ p.y ∧ p.y < v.y) ∧ 0 < crossE u v p)
def upX (a b p : Pt) : Bool := decide (¬ (a.x ≤ p.x ↔ b.x ≤ p.x) ∧ (crossE a b p < 0 ↔ a.x < b.x))
theorem xor_dec {A B : Prop} [Decidable A] [Decidable B] : (decide A ^^ decide B) = decide (¬ (A ↔ B)) := by
  by_cases h : A <;> by_cases h' : B <;> simp [h, h']
def quad (a p : Pt) : Bool := decide (p.x < a.x ∧ p.y < a.y)
theorem sg {u v : Int} : (¬0 < u ∨ ¬0 < v ∨ 0 < u * v) ∧ (¬u < 0 ∨ ¬0 < v ∨ u * v < 0) ∧ (¬0 < u ∨ ¬v < 0 ∨ u * v < 0) ∧ (¬u < 0 ∨ ¬v < 0 ∨ 0 < u * v) ∧ (¬u = 0 ∨ u * v = 0) ∧ (¬v = 0 ∨ u * v = 0) := by
  refine ⟨?_, ?_, ?_, ?_, ?_, ?_⟩
  · by_cases h : 0 < u <;> by_cases h' : 0 < v <;> simp [h, h']
    exact Int.mul_pos h h'
  · by_cases h : u < 0 <;> by_cases h' : 0 < v <;> simp [h, h']
    exact Int.mul_neg_of_neg_of_pos h h'
  · by_cases h : 0 < u <;> by_cases h' : v < 0 <;> simp [h, h']
    exact Int.mul_neg_of_pos_of_neg h h'
  · by_cases h : u < 0 <;> by_cases h' : v < 0 <;> simp [h, h']
    exact Int.mul_pos_of_neg_of_neg h h'
  · by_cases h : u = 0
    · right; rw [h, Int.zero_mul]
    · left; exact h
  · by_cases h : v = 0
    · right; rw [h, Int.mul_zero]
    · left; exact h
theorem sign_lt {n : Int} : signE n < 0 ↔ n < 0 := by unfold signE; (repeat' split) <;> omega
theorem cross_rel (a b p : Pt) : crossE a b p = (a.x - p.x) * (b.y - p.y) - (a.y - p.y) * (b.x - p.x) := by simp only [crossE]; grind
theorem edge_pos {x1 y1 x2 y2 P Q : Int} (hy : ¬ y2 < y1)
    (s1 : (¬0 < x1 ∨ ¬0 < y2 ∨ 0 < P) ∧ (¬x1 < 0 ∨ ¬0 < y2 ∨ P < 0) ∧ (¬0 < x1 ∨ ¬y2 < 0 ∨ P < 0) ∧ (¬x1 < 0 ∨ ¬y2 < 0 ∨ 0 < P) ∧ (¬x1 = 0 ∨ P = 0) ∧ (¬y2 = 0 ∨ P = 0))
    (s2 : (¬0 < y1 ∨ ¬0 < x2 ∨ 0 < Q) ∧ (¬y1 < 0 ∨ ¬0 < x2 ∨ Q < 0) ∧ (¬0 < y1 ∨ ¬x2 < 0 ∨ Q < 0) ∧ (¬y1 < 0 ∨ ¬x2 < 0 ∨ 0 < Q) ∧ (¬y1 = 0 ∨ Q = 0) ∧ (¬x2 = 0 ∨ Q = 0))
    (h : ¬ (P - Q = 0 ∧ (min x1 x2 ≤ 0 ∧ 0 ≤ max x1 x2) ∧ min y1 y2 ≤ 0 ∧ 0 ≤ max y1 y2)) :
    (¬ ((¬ (x1 ≤ 0 ↔ x2 ≤ 0) ∧ (P - Q < 0 ↔ x1 < x2)) ↔ ((y1 ≤ 0 ∧ 0 < y2) ∧ 0 < P - Q))) ↔ ¬ ((0 < x1 ∧ 0 < y1) ↔ (0 < x2 ∧ 0 < y2)) := by
  by_cases c1 : x1 ≤ 0 <;> by_cases c2 : x2 ≤ 0 <;> by_cases c3 : y1 ≤ 0 <;> by_cases c4 : y2 ≤ 0 <;> simp only [c1, c2, c3, c4, true_and, and_true, false_and, and_false, iff_true, true_iff, iff_false, false_iff, not_true_eq_false, not_false_eq_true] <;> omega
theorem edge_neg {x1 y1 x2 y2 P Q : Int} (hy : y2 < y1)
    (s1 : (¬0 < x1 ∨ ¬0 < y2 ∨ 0 < P) ∧ (¬x1 < 0 ∨ ¬0 < y2 ∨ P < 0) ∧ (¬0 < x1 ∨ ¬y2 < 0 ∨ P < 0) ∧ (¬x1 < 0 ∨ ¬y2 < 0 ∨ 0 < P) ∧ (¬x1 = 0 ∨ P = 0) ∧ (¬y2 = 0 ∨ P = 0))
    (s2 : (¬0 < y1 ∨ ¬0 < x2 ∨ 0 < Q) ∧ (¬y1 < 0 ∨ ¬0 < x2 ∨ Q < 0) ∧ (¬0 < y1 ∨ ¬x2 < 0 ∨ Q < 0) ∧ (¬y1 < 0 ∨ ¬x2 < 0 ∨ 0 < Q) ∧ (¬y1 = 0 ∨ Q = 0) ∧ (¬x2 = 0 ∨ Q = 0))
    (h : ¬ (P - Q = 0 ∧ (min x1 x2 ≤ 0 ∧ 0 ≤ max x1 x2) ∧ min y1 y2 ≤ 0 ∧ 0 ≤ max y1 y2)) :
    (¬ ((¬ (x1 ≤ 0 ↔ x2 ≤ 0) ∧ (P - Q < 0 ↔ x1 < x2)) ↔ ((y2 ≤ 0 ∧ 0 < y1) ∧ 0 < -(P - Q)))) ↔ ¬ ((0 < x1 ∧ 0 < y1) ↔ (0 < x2 ∧ 0 < y2)) := by
  by_cases c1 : x1 ≤ 0 <;> by_cases c2 : x2 ≤ 0 <;> by_cases c3 : y1 ≤ 0 <;> by_cases c4 : y2 ≤ 0 <;> simp only [c1, c2, c3, c4, true_and, and_true, false_and, and_false, iff_true, true_iff, iff_false, false_iff, not_true_eq_false, not_false_eq_true] <;> omega
theorem le0 {u v : Int} : u - v ≤ 0 ↔ u ≤ v := by omega
theorem lt0 {u v : Int} : 0 < u - v ↔ v < u := by omega
theorem ltd {u v w : Int} : u - w < v - w ↔ u < v := by omega
theorem edge_par {a b p : Pt} (h : onE a b p = false) : (upX a b p ^^ rightX a b p) = (quad a p ^^ quad b p) := by
  rw [onE, decide_eq_false_iff_not] at h
  have e1 := cross_rel a b p
  have e2 : crossE b a p = -crossE a b p := by simp only [crossE]; grind
  have s1 := sg (u := a.x - p.x) (v := b.y - p.y)
  have s2 := sg (u := a.y - p.y) (v := b.x - p.x)
  unfold upX rightX quad
  simp only [xor_dec, e2]
  refine decide_eq_decide.2 ?_
  rw [e1] at h ⊢
  generalize (a.x - p.x) * (b.y - p.y) = P at *
  generalize (a.y - p.y) * (b.x - p.x) = Q at *
  by_cases hyy : b.y < a.y
  · have := edge_neg (x1 := a.x - p.x) (y1 := a.y - p.y) (x2 := b.x - p.x) (y2 := b.y - p.y) (P := P) (Q := Q) (by omega) s1 s2 (by omega)
    simp only [if_pos hyy, e2, e1]
    simp only [le0, lt0, ltd] at this
    exact this
  · have := edge_pos (x1 := a.x - p.x) (y1 := a.y - p.y) (x2 := b.x - p.x) (y2 := b.y - p.y) (P := P) (Q := Q) (by omega) s1 s2 (by omega)
    simp only [if_neg hyy, e1]
    simp only [le0, lt0, ltd] at this ⊢
    exact this

def parTo (f : Nat → Bool) : Nat → Bool
  | 0 => false
  | i + 1 => parTo f i ^^ f i
theorem parTo_xor (f g : Nat → Bool) : ∀ n : Nat, (parTo f n ^^ parTo g n) = parTo (fun i => f i ^^ g i) n
  | 0 => rfl
  | n + 1 => by
    simp only [parTo]
    rw [← parTo_xor f g n]
    cases parTo f n <;> cases parTo g n <;> cases f n <;> cases g n <;> rfl
theorem parTo_congr {f g : Nat → Bool} : ∀ {n : Nat}, (∀ i, i < n → f i = g i) → parTo f n = parTo g n
  | 0, _ => rfl
  | n + 1, h => by simp only [parTo]; rw [parTo_congr fun i hi => h i (by omega), h n (by omega)]
theorem parTo_tele (g : Nat → Bool) : ∀ n : Nat, parTo (fun i => g i ^^ g (i + 1)) n = (g 0 ^^ g n)
  | 0 => by simp [parTo]
  | n + 1 => by
    simp only [parTo]
    rw [parTo_tele g n]
    cases g 0 <;> cases g n <;> cases g (n + 1) <;> rfl
def onAny (l : List Pt) (p : Pt) : Bool := (List.range l.length).any fun i => onE (cornerP l i) (cornerP l (i + 1)) p
def oddR (l : List Pt) (p : Pt) (n : Nat) : Bool := parTo (fun i => rightX (cornerP l i) (cornerP l (i + 1)) p) n
def oddU (l : List Pt) (p : Pt) (n : Nat) : Bool := parTo (fun i => upX (cornerP l i) (cornerP l (i + 1)) p) n
theorem onAny_yes {l : List Pt} {p : Pt} {i : Nat} (hi : i < l.length) (h : onE (cornerP l i) (cornerP l (i + 1)) p = true) : onAny l p = true := List.any_eq_true.2 ⟨i, List.mem_range.2 hi, h⟩
theorem onAny_no {l : List Pt} {p : Pt} (h : ∀ i, i < l.length → onE (cornerP l i) (cornerP l (i + 1)) p = false) : onAny l p = false := by
  rw [onAny, List.any_eq_false]
  intro i hi
  rw [h i (List.mem_range.1 hi)]; simp
theorem odd_same {l : List Pt} {p : Pt} (h : onAny l p = false) : oddU l p l.length = oddR l p l.length := by
  have h' : ∀ i, i < l.length → onE (cornerP l i) (cornerP l (i + 1)) p = false := fun i hi => by
    rw [onAny, List.any_eq_false] at h
    simpa using h i (List.mem_range.2 hi)
  have : (oddU l p l.length ^^ oddR l p l.length) = false := by
    unfold oddU oddR
    rw [parTo_xor, parTo_congr (g := fun i => quad (cornerP l i) p ^^ quad (cornerP l (i + 1)) p) fun i hi => edge_par (h' i hi), parTo_tele (fun i => quad (cornerP l i) p)]
    have : cornerP l l.length = cornerP l 0 := by have := corner_per l 0; rwa [Nat.zero_add] at this
    rw [this]; simp
  revert this
  cases oddU l p l.length <;> cases oddR l p l.length <;> simp
/-- 1 inside of a polygon, 0 on its border, -1 outside. -/
def insE (l : List Pt) (p : Pt) : Int := if onAny l p = true then 0 else if oddR l p l.length = true then 1 else -1
end Go.Pv.Geo

open Go Go.Proofs Go.Pv
set_option maxHeartbeats 4000000
set_option maxRecDepth 100000
set_option linter.unusedSimpArgs false
set_option linter.unusedVariables false
namespace Go.Pv.Geo
def sgnB (b : Bool) : Int := if b = true then 1 else -1
theorem sgnB_bd (b : Bool) : -1 ≤ sgnB b ∧ sgnB b ≤ 1 := by unfold sgnB; split <;> omega
theorem sgnB_not (b : Bool) : sgnB (b ^^ true) = 0 - sgnB b := by cases b <;> rfl
theorem insE_on {l : List Pt} {p : Pt} (h : onAny l p = true) : insE l p = 0 := if_pos h
theorem insE_off {l : List Pt} {p : Pt} (h : onAny l p = false) : insE l p = sgnB (oddR l p l.length) := by
  rw [insE, if_neg (by rw [h]; simp)]; rfl
theorem c_inside (l : List Pt) (h0 : 0 < l.length) (hl : l.length < 1000000000000) (hok : ∀ q ∈ l, ptOK q = true) (p : Pt) (hp : ptOK p = true) : Contract Tryz.prog 68 [.sl (l.map encPt), .agg (encPt p)] (.ret (.int .i64 (insE l p))) := by
  refine contract_of mix Tryz.func68 rfl rfl (by rw [Tryz.ntmps68]; exact Nat.le_of_ble_eq_true rfl) ?_; rw [Tryz.results68, Tryz.ntmps68]; simp only [argsE, Nat.reduceAdd]
  repeat' first
           | (with_reducible apply go_op)
           | (with_reducible apply go_next)
           | ((with_reducible (show evOp _ _ _ _ _ _)); first
             | ((with_reducible (show evOp _ (.move _) _ _ _ _)) ; first | ((with_reducible apply go_mv_int); rfl; rfl) | ((with_reducible apply go_mv_sl); rfl; rfl))
             | ((with_reducible apply go_as))
             | (((with_reducible apply go_len); rfl; rfl))
             | (((with_reducible apply go_bx_agg); rfl; rfl; (exact Nat.le_of_ble_eq_true rfl); rfl; rfl)))
           | ((with_reducible (show evOps _ _ _ _ _ _)); first
             | (with_reducible apply go_nil))
           | ((with_reducible (show evG _ _ _ _ _)); first
             | (with_reducible apply go_seq)
             | (with_reducible apply go_region)
             | (with_reducible apply go_block))
           | (with_reducible apply go_kseq)
  refine go_count l.length (fun i => ⟨[(11, .int .i64 i), (10, .int .i64 l.length), (9, .sl (l.map encPt)), (0, .sl (l.map encPt)), (5, .int .i64 (sgnB (oddR l p i))), (3, .op 0 0 0)], [(0, ⟨2, true, [encPt p]⟩)], 32, 54⟩) (fun i => ∀ j, j < i → onE (cornerP l j) (cornerP l (j + 1)) p = false) (entails_eq (nx := 32) (k := 0) (ns := []) (ks := [11, 10, 9, 0, 5, 3]) [(0, 0)] rfl (by simp) (by kernel_rfl)) (fun j hj => absurd hj (by omega)) ?_
  intro i hi hC
  have hin := sgnB_bd (oddR l p i)
  by_cases hlt : i < l.length
  · have ec := cornerP_lt hlt
    have hoa : ptOK l[i] = true := hok _ (List.getElem_mem hlt)
    have hob : ptOK (cornerP l (i + 1)) = true := hok _ (cornerP_mem h0 _)
    have h188 : Contract Tryz.prog 97 [.sl (l.map encPt), .int .i64 ((i : Int) + 1)] (.ret (.agg (encPt (cornerP l (i + 1))))) := c_corner l h0 hl (i + 1)
    have h189 := c_on l[i] (cornerP l (i + 1)) p hoa hob hp
    have hx1 := c_cross l[i] (cornerP l (i + 1)) p hoa hob hp
    have hx2 := c_cross (cornerP l (i + 1)) l[i] p hob hoa hp
    have hnx : sgnB (oddR l p (i + 1)) = sgnB (oddR l p i ^^ rightX (cornerP l i) (cornerP l (i + 1)) p) := rfl
    have hCon : onE (cornerP l i) (cornerP l (i + 1)) p = false → ∀ j, j < i + 1 → onE (cornerP l j) (cornerP l (j + 1)) p = false := fun h j hj => by
      rcases Nat.lt_succ_iff_lt_or_eq.1 hj with h' | rfl
      · exact hC j h'
      · exact h
    rw [ec] at hnx hCon
    have hres : onE l[i] (cornerP l (i + 1)) p = true → insE l p = 0 := fun h => insE_on (onAny_yes hlt (by rw [ec]; exact h))
    clear hok h0
    generalize cornerP l (i + 1) = b at *
    have hno : rightX l[i] b p = false → sgnB (oddR l p (i + 1)) = sgnB (oddR l p i) := fun h => by rw [hnx, h, Bool.xor_false]
    have hyes : rightX l[i] b p = true → sgnB (oddR l p (i + 1)) = 0 - sgnB (oddR l p i) := fun h => by rw [hnx, h, sgnB_not]
    by_cases hsw : b.y < l[i].y
    · have hr : rightX l[i] b p = decide ((b.y ≤ p.y ∧ p.y < l[i].y) ∧ 0 < crossE b l[i] p) := by simp only [rightX, if_pos hsw]
      rw [hr] at hno hyes
      repeat' first
           | (with_reducible apply go_op)
           | (with_reducible apply go_next)
           | ((with_reducible (show evOp _ _ _ _ _ _)); first
             | ((with_reducible (show evOp _ (.move _) _ _ _ _)) ; first | ((with_reducible apply go_mv_int); rfl; rfl) | ((with_reducible apply go_mv_bool); rfl; rfl) | ((with_reducible apply go_mv_sl); rfl; rfl))
             | ((with_reducible apply go_as))
             | ((with_reducible (show evOp _ (.load _ _) _ _ _ _)) ; first | ((with_reducible apply go_ld_ptr); rfl; rfl; rfl) | ((with_reducible apply go_ld_agg); rfl; rfl; rfl; rfl) | ((with_reducible apply go_load_own); rfl; rfl; rfl; rfl))
             | (((with_reducible apply go_fieldAddr_own); rfl; rfl; rfl))
             | (((with_reducible apply go_index_nat); rfl; rfl; (with_reducible rfl); (intro; rfl); rfl; omega; (intro hlt)))
             | ((with_reducible (show evOp _ (.binOp _ _ _ _ _) _ _ _ _)) ; first | ((with_reducible apply go_cmp); rfl; rfl; rfl; rfl) | ((with_reducible apply go_add); rfl; rfl; rfl; omega))
             | ((with_reducible (show evOp _ (.call _) _ _ _ _)) ; first | ((with_reducible apply go_fn_plain); rfl; (exact h188); rfl; (exact Nat.le_of_ble_eq_true rfl); rfl) | ((with_reducible apply go_fn_bool); rfl; (exact h189); rfl) | ((with_reducible apply go_fn_int); rfl; (exact hx2); rfl))
             | (((with_reducible apply go_st_agg); rfl; rfl; rfl; rfl; rfl; rfl; rfl))
             | (((with_reducible apply go_neg); rfl; rfl; omega))
             | (((with_reducible apply go_pick); rfl; rfl; rfl))
             | (((with_reducible apply go_alloc); rfl; rfl; rfl)))
           | ((with_reducible (show evOps _ _ _ _ _ _)); first
             | (with_reducible apply go_nil)
             | ((with_reducible apply go_run); rfl; rfl)
             | ((with_reducible apply go_pass); rfl; rfl; rfl)
             | (((with_reducible apply go_guard); rfl) <;> (intro h; simp only [h, Bool.not_true, Bool.not_false]; (try with_reducible (refine ⟨rfl, ?_⟩)); try simp only [decide_eq_true_eq, decide_eq_false_iff_not, Bool.not_eq_true', Bool.not_eq_false', Bool.not_true, Bool.not_false] at h; try exact absurd trivial h)))
           | ((with_reducible (show evG _ _ _ _ _)); first
             | (with_reducible apply go_seq)
             | (with_reducible apply go_region)
             | ((with_reducible apply go_cond_f); rfl; rfl)
             | (((with_reducible apply go_cond); rfl) <;> (intro h; simp only [h]; try simp only [decide_eq_true_eq, decide_eq_false_iff_not, Bool.not_eq_true', Bool.not_eq_false', Bool.not_true, Bool.not_false] at h; try exact absurd trivial h))
             | (with_reducible apply go_ret)
             | (with_reducible apply go_skipc)
             | (with_reducible apply go_block)
             | (with_reducible apply go_exit))
           | (with_reducible apply go_kseq)
           | (with_reducible apply go_kseq_ret)
           | (with_reducible apply go_kblock)
           | (with_reducible apply go_kblock_ret)
           | (with_reducible apply go_kblock_exit)
           | (with_reducible apply go_kseq_exit)
           | ((with_reducible apply end_int); rfl)
      all_goals try exact absurd hlt (by omega)
      all_goals first
        | exact (hres (by assumption)).symm
        | (refine ⟨by omega, hCon (by assumption), ?_⟩; rw [hno (decide_eq_false (by omega))]; exact entails_eq (nx := 32) (k := 0) (ns := []) (ks := [11, 10, 9, 0, 5, 3]) [(0, 0)] rfl (by simp) (by kernel_rfl))
        | (refine ⟨by omega, hCon (by assumption), ?_⟩; rw [hyes (decide_eq_true (by omega))]; exact entails_eq (nx := 32) (k := 0) (ns := []) (ks := [11, 10, 9, 0, 5, 3]) [(0, 0)] rfl (by simp) (by kernel_rfl))
        | trace_state
    · have hr : rightX l[i] b p = decide ((l[i].y ≤ p.y ∧ p.y < b.y) ∧ 0 < crossE l[i] b p) := by simp only [rightX, if_neg hsw]
      rw [hr] at hno hyes
      repeat' first
           | (with_reducible apply go_op)
           | (with_reducible apply go_next)
           | ((with_reducible (show evOp _ _ _ _ _ _)); first
             | ((with_reducible (show evOp _ (.move _) _ _ _ _)) ; first | ((with_reducible apply go_mv_int); rfl; rfl) | ((with_reducible apply go_mv_bool); rfl; rfl) | ((with_reducible apply go_mv_sl); rfl; rfl))
             | ((with_reducible apply go_as))
             | ((with_reducible (show evOp _ (.load _ _) _ _ _ _)) ; first | ((with_reducible apply go_ld_ptr); rfl; rfl; rfl) | ((with_reducible apply go_ld_agg); rfl; rfl; rfl; rfl) | ((with_reducible apply go_load_own); rfl; rfl; rfl; rfl))
             | (((with_reducible apply go_fieldAddr_own); rfl; rfl; rfl))
             | (((with_reducible apply go_index_nat); rfl; rfl; (with_reducible rfl); (intro; rfl); rfl; omega; (intro hlt)))
             | ((with_reducible (show evOp _ (.binOp _ _ _ _ _) _ _ _ _)) ; first | ((with_reducible apply go_cmp); rfl; rfl; rfl; rfl) | ((with_reducible apply go_add); rfl; rfl; rfl; omega))
             | ((with_reducible (show evOp _ (.call _) _ _ _ _)) ; first | ((with_reducible apply go_fn_plain); rfl; (exact h188); rfl; (exact Nat.le_of_ble_eq_true rfl); rfl) | ((with_reducible apply go_fn_bool); rfl; (exact h189); rfl) | ((with_reducible apply go_fn_int); rfl; (exact hx1); rfl))
             | (((with_reducible apply go_st_agg); rfl; rfl; rfl; rfl; rfl; rfl; rfl))
             | (((with_reducible apply go_neg); rfl; rfl; omega))
             | (((with_reducible apply go_pick); rfl; rfl; rfl))
             | (((with_reducible apply go_alloc); rfl; rfl; rfl)))
           | ((with_reducible (show evOps _ _ _ _ _ _)); first
             | (with_reducible apply go_nil)
             | ((with_reducible apply go_run); rfl; rfl)
             | ((with_reducible apply go_pass); rfl; rfl; rfl)
             | (((with_reducible apply go_guard); rfl) <;> (intro h; simp only [h, Bool.not_true, Bool.not_false]; (try with_reducible (refine ⟨rfl, ?_⟩)); try simp only [decide_eq_true_eq, decide_eq_false_iff_not, Bool.not_eq_true', Bool.not_eq_false', Bool.not_true, Bool.not_false] at h; try exact absurd trivial h)))
           | ((with_reducible (show evG _ _ _ _ _)); first
             | (with_reducible apply go_seq)
             | (with_reducible apply go_region)
             | ((with_reducible apply go_cond_f); rfl; rfl)
             | (((with_reducible apply go_cond); rfl) <;> (intro h; simp only [h]; try simp only [decide_eq_true_eq, decide_eq_false_iff_not, Bool.not_eq_true', Bool.not_eq_false', Bool.not_true, Bool.not_false] at h; try exact absurd trivial h))
             | (with_reducible apply go_ret)
             | (with_reducible apply go_skipc)
             | (with_reducible apply go_block)
             | (with_reducible apply go_exit))
           | (with_reducible apply go_kseq)
           | (with_reducible apply go_kseq_ret)
           | (with_reducible apply go_kblock)
           | (with_reducible apply go_kblock_ret)
           | (with_reducible apply go_kblock_exit)
           | (with_reducible apply go_kseq_exit)
           | ((with_reducible apply end_int); rfl)
      all_goals try exact absurd hlt (by omega)
      all_goals first
        | exact (hres (by assumption)).symm
        | (refine ⟨by omega, hCon (by assumption), ?_⟩; rw [hno (decide_eq_false (by omega))]; exact entails_eq (nx := 32) (k := 0) (ns := []) (ks := [11, 10, 9, 0, 5, 3]) [(0, 0)] rfl (by simp) (by kernel_rfl))
        | (refine ⟨by omega, hCon (by assumption), ?_⟩; rw [hyes (decide_eq_true (by omega))]; exact entails_eq (nx := 32) (k := 0) (ns := []) (ks := [11, 10, 9, 0, 5, 3]) [(0, 0)] rfl (by simp) (by kernel_rfl))
        | trace_state
  · have e : i = l.length := by omega
    rw [insE_off (onAny_no fun j hj => hC j (by omega))]
    repeat' first
           | (with_reducible apply go_op)
           | (with_reducible apply go_next)
           | ((with_reducible (show evOp _ _ _ _ _ _)); first
             | ((with_reducible (show evOp _ (.move _) _ _ _ _)) ; first | ((with_reducible apply go_mv_int); rfl; rfl) | ((with_reducible apply go_mv_sl); rfl; rfl))
             | ((with_reducible apply go_as))
             | (((with_reducible apply go_ld_ptr); rfl; rfl; rfl))
             | (((with_reducible apply go_index_nat); rfl; rfl; (with_reducible rfl); (intro; rfl); rfl; omega; (intro hlt)))
             | ((with_reducible (show evOp _ (.binOp _ _ _ _ _) _ _ _ _)) ; first | ((with_reducible apply go_cmp); rfl; rfl; rfl; rfl) | ((with_reducible apply go_add); rfl; rfl; rfl; omega))
             | (((with_reducible apply go_st_agg); rfl; rfl; rfl; rfl; rfl; rfl; rfl))
             | (((with_reducible apply go_alloc); rfl; rfl; rfl)))
           | ((with_reducible (show evOps _ _ _ _ _ _)); first
             | (with_reducible apply go_nil))
           | ((with_reducible (show evG _ _ _ _ _)); first
             | (with_reducible apply go_seq)
             | (with_reducible apply go_region)
             | (((with_reducible apply go_cond); rfl) <;> (intro h; simp only [h]; try simp only [decide_eq_true_eq, decide_eq_false_iff_not, Bool.not_eq_true', Bool.not_eq_false', Bool.not_true, Bool.not_false] at h; try exact absurd trivial h))
             | (with_reducible apply go_ret)
             | (with_reducible apply go_skipc)
             | (with_reducible apply go_block)
             | (with_reducible apply go_exit))
           | (with_reducible apply go_kseq)
           | (with_reducible apply go_kblock_exit)
           | (with_reducible apply go_kseq_exit)
           | ((with_reducible apply end_int); rfl)
    all_goals first
      | exact absurd hlt (by omega)
      | (rw [← e])
      | trace_state
theorem insE_up {l : List Pt} {p : Pt} (h : onAny l p = false) : insE l p = sgnB (oddU l p l.length) := by rw [insE_off h, odd_same h]
theorem bxor {A B : Prop} [Decidable A] [Decidable B] : (decide A == decide B) = decide (A ↔ B) := by by_cases h : A <;> by_cases h' : B <;> simp [h, h']
/-- What Inside answers. -/
def insX (l : List Pt) (p : Pt) : Int × Int := if polyE l ≠ 0 then (0, polyE l) else if ptOK p = false then (0, 2) else (insE l p, 0)
theorem c_Inside (l : List Pt) (p : Pt) : Contract Tryz.prog 32 [.sl (l.map encPt), .agg (encPt p)] (.ret (.tup [.int .i64 (insX l p).1, .int .i64 (insX l p).2])) := by
  have hC := c_CheckPolygon l
  have ho := c_outside_1 p
  by_cases hz : polyE l = 0
  rotate_left
  · have e : insX l p = (0, polyE l) := if_pos hz
    rw [e]
    refine contract_of mix Tryz.func32 rfl rfl (by rw [Tryz.ntmps32]; exact Nat.le_of_ble_eq_true rfl) ?_; rw [Tryz.results32, Tryz.ntmps32]; simp only [argsE, Nat.reduceAdd]
    repeat' first
           | (with_reducible apply go_op)
           | (with_reducible apply go_next)
           | ((with_reducible (show evOp _ _ _ _ _ _)); first
             | ((with_reducible (show evOp _ (.move _) _ _ _ _)) ; first | ((with_reducible apply go_mv_int); rfl; rfl) | ((with_reducible apply go_mv_sl); rfl; rfl))
             | ((with_reducible apply go_as))
             | (((with_reducible apply go_ld_agg); rfl; rfl; rfl; rfl))
             | (((with_reducible apply go_cmp); rfl; rfl; rfl; rfl))
             | (((with_reducible apply go_fn_int); rfl; (exact hC); rfl))
             | (((with_reducible apply go_bx_agg); rfl; rfl; (exact Nat.le_of_ble_eq_true rfl); rfl; rfl))
             | (((with_reducible apply go_bs1_agg); rfl; rfl; rfl; rfl; rfl; rfl)))
           | ((with_reducible (show evOps _ _ _ _ _ _)); first
             | (with_reducible apply go_nil))
           | ((with_reducible (show evG _ _ _ _ _)); first
             | (with_reducible apply go_seq)
             | (with_reducible apply go_region)
             | (((with_reducible apply go_cond); rfl) <;> (intro h; simp only [h]; try simp only [decide_eq_true_eq, decide_eq_false_iff_not, Bool.not_eq_true', Bool.not_eq_false', Bool.not_true, Bool.not_false] at h; try exact absurd trivial h))
             | (with_reducible apply go_ret)
             | (with_reducible apply go_skipc))
           | (with_reducible apply go_kseq)
           | (with_reducible apply go_kseq_ret)
           | ((with_reducible apply end_t2); rfl; rfl; rfl; rfl)
    all_goals first | rfl | (exfalso; omega)
  obtain ⟨⟨h3, h40⟩, hok, -⟩ := poly_ok hz
  cases hp : ptOK p
  · have e : insX l p = (0, 2) := by rw [insX, if_neg (by omega), if_pos hp]
    rw [e]
    rw [hz] at hC
    rw [hp] at ho
    refine contract_of mix Tryz.func32 rfl rfl (by rw [Tryz.ntmps32]; exact Nat.le_of_ble_eq_true rfl) ?_; rw [Tryz.results32, Tryz.ntmps32]; simp only [argsE, Nat.reduceAdd]
    repeat' first
           | (with_reducible apply go_op)
           | (with_reducible apply go_next)
           | ((with_reducible (show evOp _ _ _ _ _ _)); first
             | ((with_reducible (show evOp _ (.move _) _ _ _ _)) ; first | ((with_reducible apply go_mv_int); rfl; rfl) | ((with_reducible apply go_mv_sl); rfl; rfl))
             | ((with_reducible apply go_as))
             | (((with_reducible apply go_ld_agg); rfl; rfl; rfl; rfl))
             | (((with_reducible apply go_cmp); rfl; rfl; rfl; rfl))
             | ((with_reducible (show evOp _ (.call _) _ _ _ _)) ; first | ((with_reducible apply go_fn_int); rfl; (exact hC); rfl) | ((with_reducible apply go_fn_bool); (exact purL_os rfl (by simp) rfl); (exact ho); rfl))
             | (((with_reducible apply go_bx_agg); rfl; rfl; (exact Nat.le_of_ble_eq_true rfl); rfl; rfl))
             | (((with_reducible apply go_bs1_agg); rfl; rfl; rfl; rfl; rfl; rfl)))
           | ((with_reducible (show evOps _ _ _ _ _ _)); first
             | (with_reducible apply go_nil))
           | ((with_reducible (show evG _ _ _ _ _)); first
             | (with_reducible apply go_seq)
             | (with_reducible apply go_region)
             | ((with_reducible apply go_cond_t); rfl; rfl)
             | ((with_reducible apply go_cond_f); rfl; rfl)
             | (with_reducible apply go_ret)
             | (with_reducible apply go_skipc))
           | (with_reducible apply go_kseq)
           | (with_reducible apply go_kseq_ret)
           | ((with_reducible apply end_t2); rfl; rfl; rfl; rfl)
    all_goals first | rfl | (exfalso; omega)
  · have e : insX l p = (insE l p, 0) := by rw [insX, if_neg (by omega), if_neg (by rw [hp]; simp)]
    rw [e]
    rw [hz] at hC
    rw [hp] at ho
    have hi := c_inside l (by omega) (by omega) hok p hp
    refine contract_of mix Tryz.func32 rfl rfl (by rw [Tryz.ntmps32]; exact Nat.le_of_ble_eq_true rfl) ?_; rw [Tryz.results32, Tryz.ntmps32]; simp only [argsE, Nat.reduceAdd]
    repeat' first
           | (with_reducible apply go_op)
           | (with_reducible apply go_next)
           | ((with_reducible (show evOp _ _ _ _ _ _)); first
             | ((with_reducible (show evOp _ (.move _) _ _ _ _)) ; first | ((with_reducible apply go_mv_int); rfl; rfl) | ((with_reducible apply go_mv_sl); rfl; rfl))
             | ((with_reducible apply go_as))
             | (((with_reducible apply go_ld_agg); rfl; rfl; rfl; rfl))
             | (((with_reducible apply go_cmp); rfl; rfl; rfl; rfl))
             | ((with_reducible (show evOp _ (.call _) _ _ _ _)) ; first | ((with_reducible apply go_fn_int); rfl; (exact hC); rfl) | ((with_reducible apply go_fn_bool); (exact purL_os rfl (by simp) rfl); (exact ho); rfl) | ((with_reducible apply go_fn_int); rfl; (exact hi); rfl))
             | (((with_reducible apply go_bx_agg); rfl; rfl; (exact Nat.le_of_ble_eq_true rfl); rfl; rfl))
             | (((with_reducible apply go_bs1_agg); rfl; rfl; rfl; rfl; rfl; rfl)))
           | ((with_reducible (show evOps _ _ _ _ _ _)); first
             | (with_reducible apply go_nil))
           | ((with_reducible (show evG _ _ _ _ _)); first
             | (with_reducible apply go_seq)
             | (with_reducible apply go_region)
             | ((with_reducible apply go_cond_f); rfl; rfl)
             | (with_reducible apply go_ret)
             | (with_reducible apply go_skipc))
           | (with_reducible apply go_kseq)
           | ((with_reducible apply end_t2); rfl; rfl; rfl; rfl)
    all_goals first | rfl | (exfalso; omega)
end Go.Pv.Geo

open Go Go.Proofs Go.Pv
set_option maxHeartbeats 4000000
set_option maxRecDepth 100000
set_option linter.unusedSimpArgs false
set_option linter.unusedVariables false
namespace Go.Pv.Soil
theorem samples_ok {l : List Sample} (h : samplesE l = 0) : l.length ≤ 60 ∧ ∀ i (hi : i < l.length), Geo.ptOK ⟨l[i].x, l[i].y⟩ = true := by
  unfold samplesE at h
  split at h
  · omega
  · rename_i h1
    refine ⟨by omega, fun i hi => ?_⟩
    have h2 := firstE_all h i hi
    rw [stepS_at hi] at h2
    split at h2
    · omega
    · split at h2
      · omega
      · unfold smpE at h2
        split at h2
        · omega
        · rename_i h3
          have h4 : ptOK ⟨l[i].x, l[i].y⟩ = true := by
            by_cases hp : ptOK ⟨l[i].x, l[i].y⟩ = true
            · exact hp
            · exact absurd (fun h => hp h.1) h3
          exact h4
/-- Is a sample in a polygon and between two levels? -/
def selB (q : List Geo.Pt) (a b : Int) (s : Sample) : Bool := (decide (0 ≤ Geo.insE q ⟨s.x, s.y⟩) && decide (s.bottom < a)) && decide (b < s.top)
def selL (l : List Sample) (q : List Geo.Pt) (a b : Int) (i : Nat) : List Sample := (l.take i).filter (selB q a b)
theorem selL_len (l : List Sample) (q : List Geo.Pt) (a b : Int) (i : Nat) : (selL l q a b i).length ≤ i := by
  have h1 := List.length_filter_le (selB q a b) (l.take i)
  have h2 := List.length_take_le i l
  unfold selL; omega
theorem selL_yes {l : List Sample} {q : List Geo.Pt} {a b : Int} {i : Nat} (hi : i < l.length) (h : selB q a b l[i] = true) : selL l q a b i ++ [l[i]] = selL l q a b (i + 1) := by
  unfold selL
  rw [List.take_succ_eq_append_getElem hi, List.filter_append, List.filter_cons_of_pos h, List.filter_nil]
theorem selL_no {l : List Sample} {q : List Geo.Pt} {a b : Int} {i : Nat} (hi : i < l.length) (h : selB q a b l[i] = false) : selL l q a b i = selL l q a b (i + 1) := by
  unfold selL
  rw [List.take_succ_eq_append_getElem hi, List.filter_append, List.filter_cons_of_neg (by simp [h]), List.filter_nil, List.append_nil]
def chosenE (l : List Sample) (q : List Geo.Pt) (a b : Int) : Int := if samplesE l ≠ 0 then samplesE l else if Geo.polyE q ≠ 0 then Geo.polyE q else if ¬ (lvOK a = true ∧ lvOK b = true) then 2 else if a ≤ b then 9 else 0
def chosenR (l : List Sample) (q : List Geo.Pt) (a b : Int) : List Sample × Int := if chosenE l q a b = 0 then (selL l q a b l.length, 0) else ([], chosenE l q a b)
def encChosen (x : List Sample × Int) : D := .tup [.fr 7 (x.1.map encSample), .int .i64 x.2]
theorem chosen_bad {l : List Sample} {q : List Geo.Pt} {a b e : Int} (h : chosenE l q a b = e) (he : e ≠ 0) : chosenR l q a b = ([], e) := by
  unfold chosenR; rw [h, if_neg he]
theorem c64 (l : List Sample) (hl : l.length < 1000000000000) (q : List Geo.Pt) (a b : Int) : Contract Tryz.prog 31 [.sl (l.map encSample), .sl (q.map Geo.encPt), .int .i64 a, .int .i64 b] (.ret (encChosen (chosenR l q a b))) := by
  have h1 := c112 l hl
  have h2 : Contract Tryz.prog 66 [.sl (q.map Geo.encPt)] (.ret (.int .i64 (Geo.polyE q))) := Geo.c_CheckPolygon q
  have h3 := c114 a
  have h4 := c114 b
  by_cases hs : samplesE l = 0
  rotate_left
  · rw [chosen_bad (e := samplesE l) (by unfold chosenE; rw [if_pos hs]) hs]
    refine contract_of mix Tryz.func31 rfl rfl (by rw [Tryz.ntmps31]; exact Nat.le_of_ble_eq_true rfl) ?_; rw [Tryz.results31, Tryz.ntmps31]; simp only [argsE, Nat.reduceAdd]
    repeat' first
           | (with_reducible apply go_op)
           | (with_reducible apply go_next)
           | ((with_reducible (show evOp _ _ _ _ _ _)); first
             | ((with_reducible (show evOp _ (.move _) _ _ _ _)) ; first | ((with_reducible apply go_mv_int); rfl; rfl) | ((with_reducible apply go_mv_sl); rfl; rfl) | ((with_reducible apply go_mv_nilsl); rfl; rfl))
             | ((with_reducible apply go_as))
             | (((with_reducible apply go_cmp); rfl; rfl; rfl; rfl))
             | (((with_reducible apply go_fn_int); rfl; (exact h1); rfl)))
           | ((with_reducible (show evOps _ _ _ _ _ _)); first
             | (with_reducible apply go_nil))
           | ((with_reducible (show evG _ _ _ _ _)); first
             | (with_reducible apply go_seq)
             | (with_reducible apply go_region)
             | (((with_reducible apply go_cond); rfl) <;> (intro h; simp only [h]; try simp only [decide_eq_true_eq, decide_eq_false_iff_not, Bool.not_eq_true', Bool.not_eq_false', Bool.not_true, Bool.not_false] at h; try exact absurd trivial h))
             | (with_reducible apply go_ret)
             | (with_reducible apply go_skipc))
           | (with_reducible apply go_kseq)
           | (with_reducible apply go_kseq_ret)
    all_goals first
      | exact finK_ret (fin_nil2 rfl rfl rfl)
      | (exfalso; omega)
      | trace_state
  by_cases hq : Geo.polyE q = 0
  rotate_left
  · rw [chosen_bad (e := Geo.polyE q) (by unfold chosenE; rw [if_neg (by omega), if_pos hq]) hq]
    rw [hs] at h1
    refine contract_of mix Tryz.func31 rfl rfl (by rw [Tryz.ntmps31]; exact Nat.le_of_ble_eq_true rfl) ?_; rw [Tryz.results31, Tryz.ntmps31]; simp only [argsE, Nat.reduceAdd]
    repeat' first
           | (with_reducible apply go_op)
           | (with_reducible apply go_next)
           | ((with_reducible (show evOp _ _ _ _ _ _)); first
             | ((with_reducible (show evOp _ (.move _) _ _ _ _)) ; first | ((with_reducible apply go_mv_int); rfl; rfl) | ((with_reducible apply go_mv_sl); rfl; rfl) | ((with_reducible apply go_mv_nilsl); rfl; rfl))
             | ((with_reducible apply go_as))
             | (((with_reducible apply go_cmp); rfl; rfl; rfl; rfl))
             | ((with_reducible (show evOp _ (.call _) _ _ _ _)) ; first | ((with_reducible apply go_fn_int); rfl; (exact h1); rfl) | ((with_reducible apply go_fn_int); rfl; (exact h2); rfl)))
           | ((with_reducible (show evOps _ _ _ _ _ _)); first
             | (with_reducible apply go_nil))
           | ((with_reducible (show evG _ _ _ _ _)); first
             | (with_reducible apply go_seq)
             | (with_reducible apply go_region)
             | ((with_reducible apply go_cond_f); rfl; rfl)
             | (((with_reducible apply go_cond); rfl) <;> (intro h; simp only [h]; try simp only [decide_eq_true_eq, decide_eq_false_iff_not, Bool.not_eq_true', Bool.not_eq_false', Bool.not_true, Bool.not_false] at h; try exact absurd trivial h))
             | (with_reducible apply go_ret)
             | (with_reducible apply go_skipc))
           | (with_reducible apply go_kseq)
           | (with_reducible apply go_kseq_ret)
    all_goals first
      | exact finK_ret (fin_nil2 rfl rfl rfl)
      | (exfalso; omega)
      | trace_state
  rw [hs] at h1
  rw [hq] at h2
  cases ha : lvOK a
  · rw [ha] at h3
    rw [chosen_bad (e := 2) (by unfold chosenE; rw [if_neg (by omega), if_neg (by omega), if_pos (by simp [ha])]) (by decide)]
    refine contract_of mix Tryz.func31 rfl rfl (by rw [Tryz.ntmps31]; exact Nat.le_of_ble_eq_true rfl) ?_; rw [Tryz.results31, Tryz.ntmps31]; simp only [argsE, Nat.reduceAdd]
    repeat' first
           | (with_reducible apply go_op)
           | (with_reducible apply go_next)
           | ((with_reducible (show evOp _ _ _ _ _ _)); first
             | ((with_reducible (show evOp _ (.move _) _ _ _ _)) ; first | ((with_reducible apply go_mv_int); rfl; rfl) | ((with_reducible apply go_mv_bool); rfl; rfl) | ((with_reducible apply go_mv_sl); rfl; rfl) | ((with_reducible apply go_mv_nilsl); rfl; rfl))
             | ((with_reducible apply go_as))
             | (((with_reducible apply go_cmp); rfl; rfl; rfl; rfl))
             | ((with_reducible (show evOp _ (.call _) _ _ _ _)) ; first | ((with_reducible apply go_fn_int); rfl; (exact h1); rfl) | ((with_reducible apply go_fn_int); rfl; (exact h2); rfl) | ((with_reducible apply go_fn_bool); rfl; (exact h3); rfl))
             | (((with_reducible apply go_not); rfl; rfl))
             | (((with_reducible apply go_pick); rfl; rfl; rfl)))
           | ((with_reducible (show evOps _ _ _ _ _ _)); first
             | (with_reducible apply go_nil)
             | ((with_reducible apply go_pass); rfl; rfl; rfl))
           | ((with_reducible (show evG _ _ _ _ _)); first
             | (with_reducible apply go_seq)
             | (with_reducible apply go_region)
             | ((with_reducible apply go_cond_t); rfl; rfl)
             | ((with_reducible apply go_cond_f); rfl; rfl)
             | (with_reducible apply go_ret)
             | (with_reducible apply go_skipc))
           | (with_reducible apply go_kseq)
           | (with_reducible apply go_kseq_ret)
    all_goals first
      | exact finK_ret (fin_nil2 rfl rfl rfl)
      | (exfalso; omega)
      | trace_state
  cases hb : lvOK b
  · rw [ha] at h3
    rw [hb] at h4
    rw [chosen_bad (e := 2) (by unfold chosenE; rw [if_neg (by omega), if_neg (by omega), if_pos (by simp [hb])]) (by decide)]
    refine contract_of mix Tryz.func31 rfl rfl (by rw [Tryz.ntmps31]; exact Nat.le_of_ble_eq_true rfl) ?_; rw [Tryz.results31, Tryz.ntmps31]; simp only [argsE, Nat.reduceAdd]
    repeat' first
           | (with_reducible apply go_op)
           | (with_reducible apply go_next)
           | ((with_reducible (show evOp _ _ _ _ _ _)); first
             | ((with_reducible (show evOp _ (.move _) _ _ _ _)) ; first | ((with_reducible apply go_mv_int); rfl; rfl) | ((with_reducible apply go_mv_bool); rfl; rfl) | ((with_reducible apply go_mv_sl); rfl; rfl) | ((with_reducible apply go_mv_nilsl); rfl; rfl))
             | ((with_reducible apply go_as))
             | (((with_reducible apply go_cmp); rfl; rfl; rfl; rfl))
             | ((with_reducible (show evOp _ (.call _) _ _ _ _)) ; first | ((with_reducible apply go_fn_int); rfl; (exact h1); rfl) | ((with_reducible apply go_fn_int); rfl; (exact h2); rfl) | ((with_reducible apply go_fn_bool); rfl; (exact h3); rfl) | ((with_reducible apply go_fn_bool); rfl; (exact h4); rfl))
             | (((with_reducible apply go_not); rfl; rfl))
             | (((with_reducible apply go_pick); rfl; rfl; rfl)))
           | ((with_reducible (show evOps _ _ _ _ _ _)); first
             | (with_reducible apply go_nil)
             | ((with_reducible apply go_run); rfl; rfl))
           | ((with_reducible (show evG _ _ _ _ _)); first
             | (with_reducible apply go_seq)
             | (with_reducible apply go_region)
             | ((with_reducible apply go_cond_t); rfl; rfl)
             | ((with_reducible apply go_cond_f); rfl; rfl)
             | (with_reducible apply go_ret)
             | (with_reducible apply go_skipc))
           | (with_reducible apply go_kseq)
           | (with_reducible apply go_kseq_ret)
    all_goals first
      | exact finK_ret (fin_nil2 rfl rfl rfl)
      | (exfalso; omega)
      | trace_state
  rw [ha] at h3
  rw [hb] at h4
  by_cases hab : a ≤ b
  · rw [chosen_bad (e := 9) (by unfold chosenE; rw [if_neg (by omega), if_neg (by omega), if_neg (by simp [ha, hb]), if_pos hab]) (by decide)]
    refine contract_of mix Tryz.func31 rfl rfl (by rw [Tryz.ntmps31]; exact Nat.le_of_ble_eq_true rfl) ?_; rw [Tryz.results31, Tryz.ntmps31]; simp only [argsE, Nat.reduceAdd]
    repeat' first
           | (with_reducible apply go_op)
           | (with_reducible apply go_next)
           | ((with_reducible (show evOp _ _ _ _ _ _)); first
             | ((with_reducible (show evOp _ (.move _) _ _ _ _)) ; first | ((with_reducible apply go_mv_int); rfl; rfl) | ((with_reducible apply go_mv_bool); rfl; rfl) | ((with_reducible apply go_mv_sl); rfl; rfl) | ((with_reducible apply go_mv_nilsl); rfl; rfl))
             | ((with_reducible apply go_as))
             | (((with_reducible apply go_cmp); rfl; rfl; rfl; rfl))
             | ((with_reducible (show evOp _ (.call _) _ _ _ _)) ; first | ((with_reducible apply go_len); rfl; rfl) | ((with_reducible apply go_fn_int); rfl; (exact h1); rfl) | ((with_reducible apply go_fn_int); rfl; (exact h2); rfl) | ((with_reducible apply go_fn_bool); rfl; (exact h3); rfl) | ((with_reducible apply go_fn_bool); rfl; (exact h4); rfl))
             | (((with_reducible apply go_not); rfl; rfl))
             | (((with_reducible apply go_pick); rfl; rfl; rfl)))
           | ((with_reducible (show evOps _ _ _ _ _ _)); first
             | (with_reducible apply go_nil)
             | ((with_reducible apply go_run); rfl; rfl))
           | ((with_reducible (show evG _ _ _ _ _)); first
             | (with_reducible apply go_seq)
             | (with_reducible apply go_region)
             | ((with_reducible apply go_cond_f); rfl; rfl)
             | (((with_reducible apply go_cond); rfl) <;> (intro h; simp only [h]; try simp only [decide_eq_true_eq, decide_eq_false_iff_not, Bool.not_eq_true', Bool.not_eq_false', Bool.not_true, Bool.not_false] at h; try exact absurd trivial h))
             | (with_reducible apply go_ret)
             | (with_reducible apply go_skipc)
             | (with_reducible apply go_block))
           | (with_reducible apply go_kseq)
           | (with_reducible apply go_kseq_ret)
    all_goals first
      | exact finK_ret (fin_nil2 rfl rfl rfl)
      | (exfalso; omega)
      | trace_state
  have he : chosenE l q a b = 0 := by unfold chosenE; rw [if_neg (by omega), if_neg (by omega), if_neg (by simp [ha, hb]), if_neg hab]
  rw [show chosenR l q a b = (selL l q a b l.length, 0) from if_pos he]
  obtain ⟨h60, hpt⟩ := samples_ok hs
  refine contract_of mix Tryz.func31 rfl rfl (by rw [Tryz.ntmps31]; exact Nat.le_of_ble_eq_true rfl) ?_; rw [Tryz.results31, Tryz.ntmps31]; simp only [argsE, Nat.reduceAdd]
  repeat' first
           | (with_reducible apply go_op)
           | (with_reducible apply go_next)
           | ((with_reducible (show evOp _ _ _ _ _ _)); first
             | ((with_reducible (show evOp _ (.move _) _ _ _ _)) ; first | ((with_reducible apply go_mv_int); rfl; rfl) | ((with_reducible apply go_mv_bool); rfl; rfl) | ((with_reducible apply go_mv_sl); rfl; rfl) | ((with_reducible apply go_mv_nilsl); rfl; rfl))
             | ((with_reducible apply go_as))
             | (((with_reducible apply go_cmp); rfl; rfl; rfl; rfl))
             | ((with_reducible (show evOp _ (.call _) _ _ _ _)) ; first | ((with_reducible apply go_len); rfl; rfl) | ((with_reducible apply go_fn_int); rfl; (exact h1); rfl) | ((with_reducible apply go_fn_int); rfl; (exact h2); rfl) | ((with_reducible apply go_fn_bool); rfl; (exact h3); rfl) | ((with_reducible apply go_fn_bool); rfl; (exact h4); rfl))
             | (((with_reducible apply go_not); rfl; rfl))
             | (((with_reducible apply go_pick); rfl; rfl; rfl)))
           | ((with_reducible (show evOps _ _ _ _ _ _)); first
             | (with_reducible apply go_nil)
             | ((with_reducible apply go_run); rfl; rfl))
           | ((with_reducible (show evG _ _ _ _ _)); first
             | (with_reducible apply go_seq)
             | (with_reducible apply go_region)
             | ((with_reducible apply go_cond_f); rfl; rfl)
             | (((with_reducible apply go_cond); rfl) <;> (intro h; simp only [h]; try simp only [decide_eq_true_eq, decide_eq_false_iff_not, Bool.not_eq_true', Bool.not_eq_false', Bool.not_true, Bool.not_false] at h; try exact absurd trivial h))
             | (with_reducible apply go_ret)
             | (with_reducible apply go_skipc)
             | (with_reducible apply go_block))
           | (with_reducible apply go_kseq)
           | (with_reducible apply go_kseq_ret)
  all_goals try (exfalso; omega)
  refine go_count l.length (fun i => ⟨[(12, .os 1 0 (selL l q a b i).length), (40, .int .i64 i), (38, .sl (l.map encSample)), (39, .int .i64 l.length), (1, .sl (q.map Geo.encPt)), (2, .int .i64 a), (3, .int .i64 b)], [(1, ⟨7, true, (selL l q a b i).map encSample⟩)], 32, 74⟩) (fun i => True) (entails_eq (nx := 32) (k := 7) (ns := [(12, 1)]) (ks := [40, 38, 39, 1, 2, 3]) [] rfl (by simp; rfl) rfl) trivial ?_
  intro i hi hC
  by_cases hlt : i < l.length
  · have hx := Geo.c_Inside q ⟨l[i].x, l[i].y⟩
    rw [show Geo.insX q ⟨l[i].x, l[i].y⟩ = (Geo.insE q ⟨l[i].x, l[i].y⟩, 0) by unfold Geo.insX; rw [if_neg (by omega), if_neg (by rw [hpt i hlt]; simp)]] at hx
    have hx' : Contract Tryz.prog 32 [.sl (q.map Geo.encPt), .agg [.int .i64 l[i].x, .int .i64 l[i].y]] (.ret (.tup [.int .i64 (Geo.insE q ⟨l[i].x, l[i].y⟩), .int .i64 0])) := hx
    have hlen := selL_len l q a b i
    repeat' first
           | (with_reducible apply go_op)
           | (with_reducible apply go_next)
           | ((with_reducible (show evOp _ _ _ _ _ _)); first
             | ((with_reducible (show evOp _ (.move _) _ _ _ _)) ; first | ((with_reducible apply go_mv_int); rfl; rfl) | ((with_reducible apply go_mv_bool); rfl; rfl) | ((with_reducible apply go_mv_sl); rfl; rfl) | ((with_reducible apply go_mv_os); rfl; rfl) | ((with_reducible apply go_mv_tup); rfl; rfl))
             | ((with_reducible apply go_as))
             | ((with_reducible (show evOp _ (.load _ _) _ _ _ _)) ; first | ((with_reducible apply go_ld_ptr); rfl; rfl; rfl) | ((with_reducible apply go_ld_agg); rfl; rfl; rfl; rfl) | ((with_reducible apply go_load_own); rfl; rfl; rfl; rfl))
             | (((with_reducible apply go_fieldAddr_own); rfl; rfl; rfl))
             | (((with_reducible apply go_index_nat); rfl; rfl; (with_reducible rfl); (intro; rfl); rfl; omega; (intro hlt)))
             | ((with_reducible (show evOp _ (.binOp _ _ _ _ _) _ _ _ _)) ; first | ((with_reducible apply go_cmp); rfl; rfl; rfl; rfl) | ((with_reducible apply go_add); rfl; rfl; rfl; omega))
             | (((with_reducible apply go_fn_plain); rfl; (exact hx'); rfl; (exact Nat.le_of_ble_eq_true rfl); rfl))
             | (((with_reducible apply go_st_agg); rfl; rfl; rfl; rfl; rfl; rfl; rfl))
             | (((with_reducible apply go_extract); rfl; rfl))
             | (((with_reducible apply go_pick); rfl; rfl; rfl))
             | (((with_reducible apply go_bd2_int); rfl; rfl; rfl; rfl))
             | (((with_reducible apply go_alloc); rfl; rfl; rfl))
             | (((with_reducible apply go_bs1_agg); rfl; rfl; rfl; rfl; rfl; rfl)))
           | ((with_reducible (show evOps _ _ _ _ _ _)); first
             | (with_reducible apply go_nil)
             | ((with_reducible apply go_run); rfl; rfl)
             | ((with_reducible apply go_pass); rfl; rfl; rfl)
             | (((with_reducible apply go_guard); rfl) <;> (intro h; simp only [h, Bool.not_true, Bool.not_false]; (try with_reducible (refine ⟨rfl, ?_⟩)); try simp only [decide_eq_true_eq, decide_eq_false_iff_not, Bool.not_eq_true', Bool.not_eq_false', Bool.not_true, Bool.not_false] at h; try exact absurd trivial h)))
           | ((with_reducible (show evG _ _ _ _ _)); first
             | (with_reducible apply go_seq)
             | (with_reducible apply go_region)
             | ((with_reducible apply go_cond_f); rfl; rfl)
             | (((with_reducible apply go_cond); rfl) <;> (intro h; simp only [h]; try simp only [decide_eq_true_eq, decide_eq_false_iff_not, Bool.not_eq_true', Bool.not_eq_false', Bool.not_true, Bool.not_false] at h; try exact absurd trivial h))
             | (with_reducible apply go_ret)
             | (with_reducible apply go_skipc)
             | (with_reducible apply go_block)
             | (with_reducible apply go_exit))
           | (with_reducible apply go_kseq)
           | (with_reducible apply go_kblock)
           | (with_reducible apply go_kblock_exit)
           | (with_reducible apply go_kseq_exit)
    all_goals try first
      | (exfalso; omega)
      | (refine go_app_map (f := encSample) (a := l[i]) (l := selL l q a b i) scalSample rfl rfl rfl rfl rfl rfl (by kernel_rfl) (by kernel_rfl) (by omega) rfl ?_)
    repeat' first
           | (with_reducible apply go_op)
           | (with_reducible apply go_next)
           | ((with_reducible (show evOp _ _ _ _ _ _)); first
             | ((with_reducible (show evOp _ (.move _) _ _ _ _)) ; first | ((with_reducible apply go_mv_int); rfl; rfl) | ((with_reducible apply go_mv_os); rfl; rfl))
             | ((with_reducible apply go_as))
             | (((with_reducible apply go_add); rfl; rfl; rfl; omega)))
           | ((with_reducible (show evOps _ _ _ _ _ _)); first
             | (with_reducible apply go_nil))
           | ((with_reducible (show evG _ _ _ _ _)); first
             | (with_reducible apply go_region))
           | (with_reducible apply go_kseq)
           | (with_reducible apply go_kblock)
    all_goals first
      | (have hsel : selB q a b l[i] = true := by
           simp only [selB, Bool.and_eq_true, decide_eq_true_eq]; omega
         have e := selL_yes hlt hsel
         have el : (selL l q a b i).length + 1 = (selL l q a b (i + 1)).length := by rw [← e]; simp
         refine ⟨hlt, trivial, ?_⟩
         rw [e, el]
         exact entails_eq (nx := 32) (k := 7) (ns := []) (ks := [12, 40, 38, 39, 1, 2, 3]) [(1, 1)] rfl (by simp) rfl)
      | (have hsel : selB q a b l[i] = false := by
           simp only [selB, Bool.and_eq_false_iff, decide_eq_false_iff_not]; omega
         refine ⟨hlt, trivial, ?_⟩
         rw [← selL_no hlt hsel]
         exact entails_eq (nx := 32) (k := 7) (ns := []) (ks := [12, 40, 38, 39, 1, 2, 3]) [(1, 1)] rfl (by simp) rfl)
      | trace_state
  · have e : i = l.length := by omega
    subst e
    repeat' first
           | (with_reducible apply go_op)
           | (with_reducible apply go_next)
           | ((with_reducible (show evOp _ _ _ _ _ _)); first
             | ((with_reducible (show evOp _ (.move _) _ _ _ _)) ; first | ((with_reducible apply go_mv_int); rfl; rfl) | ((with_reducible apply go_mv_sl); rfl; rfl) | ((with_reducible apply go_mv_os); rfl; rfl))
             | ((with_reducible apply go_as))
             | ((with_reducible (show evOp _ (.load _ _) _ _ _ _)) ; first | ((with_reducible apply go_ld_ptr); rfl; rfl; rfl) | ((with_reducible apply go_load_own); rfl; rfl; rfl; rfl))
             | (((with_reducible apply go_fieldAddr_own); rfl; rfl; rfl))
             | (((with_reducible apply go_index_nat); rfl; rfl; (with_reducible rfl); (intro; rfl); rfl; omega; (intro hlt)))
             | (((with_reducible apply go_cmp); rfl; rfl; rfl; rfl))
             | (((with_reducible apply go_st_agg); rfl; rfl; rfl; rfl; rfl; rfl; rfl))
             | (((with_reducible apply go_bd2_int); rfl; rfl; rfl; rfl))
             | (((with_reducible apply go_alloc); rfl; rfl; rfl)))
           | ((with_reducible (show evOps _ _ _ _ _ _)); first
             | (with_reducible apply go_nil))
           | ((with_reducible (show evG _ _ _ _ _)); first
             | (with_reducible apply go_seq)
             | (with_reducible apply go_region)
             | (((with_reducible apply go_cond); rfl) <;> (intro h; simp only [h]; try simp only [decide_eq_true_eq, decide_eq_false_iff_not, Bool.not_eq_true', Bool.not_eq_false', Bool.not_true, Bool.not_false] at h; try exact absurd trivial h))
             | (with_reducible apply go_ret)
             | (with_reducible apply go_skipc)
             | (with_reducible apply go_block)
             | (with_reducible apply go_exit))
           | (with_reducible apply go_kseq)
           | (with_reducible apply go_kblock_exit)
           | (with_reducible apply go_kseq_exit)
    all_goals first
      | (exfalso; omega)
      | exact finK_ret (fin_fr2 rfl (by simp) rfl rfl rfl)
      | trace_state
end Go.Pv.Soil

open Go Go.Proofs Go.Pv
set_option maxHeartbeats 4000000
set_option maxRecDepth 100000
set_option linter.unusedSimpArgs false
set_option linter.unusedVariables false
namespace Go.Pv.Soil
/-- What is so of valid samples, one by one. -/
theorem samples_each {l : List Sample} (h : samplesE l = 0) : l.length ≤ 60 ∧ (∀ i (hi : i < l.length), (nameOK l[i].name = true ∧ nameOK l[i].sub = true) ∧ smpE l[i] = 0) ∧ l.Pairwise fun x y => x.name ≠ y.name := by
  unfold samplesE at h
  split at h
  · cases h
  · rename_i h1
    have h2 := fun i hi => firstE_all h i hi
    refine ⟨by omega, fun i hi => ?_, List.pairwise_iff_getElem.2 fun i j hi hj hij => ?_⟩
    · have h3 := h2 i hi
      rw [stepS_at hi] at h3
      split at h3
      · cases h3
      · rename_i h4
        split at h3
        · cases h3
        · exact ⟨Decidable.not_not.1 h4, h3⟩
    · have h3 := h2 j hj
      rw [stepS_at hj] at h3
      split at h3
      · cases h3
      · split at h3
        · cases h3
        · rename_i h5
          intro he
          exact h5 (List.any_eq_true.2 ⟨l[i], List.mem_iff_getElem.2 ⟨i, by simp; omega, by simp⟩, by simpa using he⟩)
theorem samples_of {l : List Sample} (h60 : l.length ≤ 60) (h1 : ∀ x ∈ l, (nameOK x.name = true ∧ nameOK x.sub = true) ∧ smpE x = 0) (h2 : l.Pairwise fun x y => x.name ≠ y.name) : samplesE l = 0 := by
  unfold samplesE
  rw [if_neg (by omega)]
  refine firstE_zero fun j hj => ?_
  rw [stepS_at hj]
  obtain ⟨h3, h4⟩ := h1 l[j] (List.getElem_mem hj)
  rw [if_neg (fun h => h h3), if_neg ?_, h4]
  intro h
  obtain ⟨y, hy, he⟩ := List.any_eq_true.1 h
  obtain ⟨i, hi, rfl⟩ := List.mem_iff_getElem.1 hy
  have hi2 : i < j := by simp at hi; omega
  rw [List.getElem_take] at he
  exact List.pairwise_iff_getElem.1 h2 i j (by omega) hj hi2 (by simpa using he)
/-- Chosen samples of valid ones are valid. -/
theorem samples_filter {l : List Sample} (h : samplesE l = 0) (p : Sample → Bool) : samplesE (l.filter p) = 0 := by
  obtain ⟨h1, h2, h3⟩ := samples_each h
  refine samples_of (Nat.le_trans (List.length_filter_le _ _) h1) (fun x hx => ?_) (h3.sublist List.filter_sublist)
  obtain ⟨i, hi, rfl⟩ := List.mem_iff_getElem.1 (List.mem_filter.1 hx).1
  exact h2 i hi
/-- The values of a substance among the chosen ones, counted up to a place. -/
def pickL (l : List Sample) (q : List Geo.Pt) (a b : Int) (sub : ByteArray) (i : Nat) : List Int := ((l.take i).filter fun x => selB q a b x && decide (x.sub = sub)).map (·.value)
theorem pickL_all (l : List Sample) (q : List Geo.Pt) (a b : Int) (sub : ByteArray) : pickL l q a b sub l.length = valL (selL l q a b l.length) sub (selL l q a b l.length).length := by
  unfold pickL valL selL
  rw [List.take_length, List.take_length, List.filter_filter]
  congr 2
  funext x
  rw [Bool.and_comm]
theorem pickL_len (l : List Sample) (q : List Geo.Pt) (a b : Int) (sub : ByteArray) (i : Nat) : (pickL l q a b sub i).length ≤ i := by
  have h1 := List.length_filter_le (fun x => selB q a b x && decide (x.sub = sub)) (l.take i)
  have h2 := List.length_take_le i l
  unfold pickL; rw [List.length_map]; omega
theorem pickL_zero (l : List Sample) (q : List Geo.Pt) (a b : Int) (sub : ByteArray) : pickL l q a b sub 0 = [] := by simp [pickL]
theorem pickL_yes {l : List Sample} {q : List Geo.Pt} {a b : Int} {sub : ByteArray} {i : Nat} (hi : i < l.length) (h : selB q a b l[i] = true) (hs : l[i].sub = sub) : pickL l q a b sub i ++ [l[i].value] = pickL l q a b sub (i + 1) := by
  unfold pickL
  rw [List.take_succ_eq_append_getElem hi, List.filter_append, List.filter_cons_of_pos (by simp [h, hs]), List.filter_nil, List.map_append, List.map_cons, List.map_nil]
theorem pickL_no {l : List Sample} {q : List Geo.Pt} {a b : Int} {sub : ByteArray} {i : Nat} (hi : i < l.length) (h : selB q a b l[i] = false ∨ l[i].sub ≠ sub) : pickL l q a b sub i = pickL l q a b sub (i + 1) := by
  unfold pickL
  rw [List.take_succ_eq_append_getElem hi, List.filter_append, List.filter_cons_of_neg (by rcases h with h | h <;> simp [h]), List.filter_nil, List.append_nil]
/-- A limit is at most the ranked value just if fewer values than the rule's part are below it. -/
theorem rank_below {V : List Int} {num den : Int} (hn : 0 < V.length) (hd : 1 ≤ den) (hnum : 1 ≤ num ∧ num ≤ den) (x : Int) : x ≤ rankI V num den ↔ ((V.countP fun y => decide (y < x) : Nat) : Int) * den < (V.length : Int) * num := by
  have hr := rankN_pos hn hd hnum
  have hrn : (((V.length : Int) * num + den - 1).tdiv den).toNat = rankN V.length num den := rfl
  have h3 := rankI_cnt hn hd hnum
  rw [hrn] at h3
  have hp : 0 ≤ (V.length : Int) * num := Int.mul_nonneg (by omega) (by omega)
  -- the rank is the quotient rounded up
  have hq : (V.length : Int) * num ≤ (rankN V.length num den : Int) * den ∧ ((rankN V.length num den : Int) - 1) * den < (V.length : Int) * num := by
    have h0 : 0 ≤ ((V.length : Int) * num + den - 1) / den := Int.ediv_nonneg (by omega) (by omega)
    have e : (rankN V.length num den : Int) = ((V.length : Int) * num + den - 1) / den := by
      unfold rankN
      rw [Int.tdiv_eq_ediv_of_nonneg (by omega)]
      omega
    have h1 := Int.mul_ediv_add_emod ((V.length : Int) * num + den - 1) den
    have h2 := Int.emod_nonneg ((V.length : Int) * num + den - 1) (show den ≠ 0 by omega)
    have h4 := Int.emod_lt_of_pos ((V.length : Int) * num + den - 1) (show 0 < den by omega)
    rw [e]
    rw [Int.mul_comm] at h1
    rw [Int.sub_mul, Int.one_mul]
    constructor <;> omega
  have hlt : x ≤ rankI V num den ↔ V.countP (fun y => decide (y < x)) < rankN V.length num den := by
    constructor
    · intro h
      have h4 : V.countP (fun y => decide (y < x)) ≤ V.countP fun y => decide (y < rankI V num den) := List.countP_mono_left fun y _ hy => by simp at hy ⊢; omega
      obtain ⟨hg, hge⟩ := rankI_get hn hd hnum
      have h5 := cnt_high (sortI_pw V) hg (u := rankI V num den - 1) (by rw [← hge]; omega)
      rw [cnt_sort, hrn] at h5
      have h6 : V.countP (fun y => decide (y < rankI V num den)) = V.countP fun y => decide (y ≤ rankI V num den - 1) := List.countP_congr fun y _ => by simp; omega
      omega
    · intro h
      rcases Int.lt_or_le (rankI V num den) x with hx | hx
      · have h4 := cnt_mono V hx
        omega
      · exact hx
  rw [hlt]
  constructor
  · intro h
    have := Int.mul_le_mul_of_nonneg_right (show ((V.countP fun y => decide (y < x) : Nat) : Int) ≤ (rankN V.length num den : Int) - 1 by omega) (show 0 ≤ den by omega)
    omega
  · intro h
    rcases Nat.lt_or_ge (V.countP fun y => decide (y < x)) (rankN V.length num den) with h4 | h4
    · exact h4
    · have := Int.mul_le_mul_of_nonneg_right (show (rankN V.length num den : Int) ≤ ((V.countP fun y => decide (y < x) : Nat) : Int) by omega) (show 0 ≤ den by omega)
      omega
def blw (V : List Int) (x : Int) (i : Nat) : Nat := (V.take i).countP fun y => decide (y < x)
theorem blw_step {l : List Int} {v : Int} {i : Nat} (h : i < l.length) : blw l v (i + 1) = if l[i] < v then blw l v i + 1 else blw l v i := by
  unfold blw
  rw [List.take_succ_eq_append_getElem h, List.countP_append, List.countP_cons, List.countP_nil]
  by_cases hc : l[i] < v
  · rw [if_pos (by simpa using hc), if_pos hc]
  · rw [if_neg (by simpa using hc), if_neg hc]; rfl
theorem blw_le {l : List Int} {v : Int} {i : Nat} : blw l v i ≤ i := by
  unfold blw
  exact Nat.le_trans List.countP_le_length (by rw [List.length_take]; omega)
theorem blw_zero (l : List Int) (v : Int) : blw l v 0 = 0 := by simp [blw]
end Go.Pv.Soil

open Go Go.Proofs Go.Pv
set_option maxHeartbeats 8000000
set_option maxRecDepth 100000
namespace Go.Pv.Soil
theorem c66u : Contract Tryz.prog 28 [] (.ret (.bool true)) := okB_ok (n := 1000) (k := 20) (by kernel_rfl)
end Go.Pv.Soil

open Go Go.Proofs Go.Pv
set_option maxHeartbeats 8000000
set_option maxRecDepth 100000
set_option linter.unusedSimpArgs false
set_option linter.unusedVariables false
namespace Go.Pv.Soil
def encLot (l : List Sample) (q : List Geo.Pt) (a b : Int) (sub : ByteArray) (lim : List Int) (num den least : Int) : List D :=
  [.sl (l.map encSample), .sl (q.map Geo.encPt), .int .i64 a, .int .i64 b, .str sub, .sl (lim.map encInt), .int .i64 num, .int .i64 den, .int .i64 least]
theorem c_lot (l : List Sample) (q : List Geo.Pt) (a b : Int) (sub : ByteArray) (lim : List Int) (num den least : Int) (hl : l.length ≤ 9223372036854775807) (hq : q.length ≤ 9223372036854775807) (hlim : lim.length ≤ 9223372036854775807) (hsub : sub.size ≤ 9223372036854775807) :
    Contract Tryz.prog 5 [.agg (encLot l q a b sub lim num den least)] (.ret (.bool true)) := by
  by_cases h65 : l.length ≤ 65
  rotate_left
  · refine contract_of mix Tryz.func5 rfl rfl (by rw [Tryz.ntmps5]; exact Nat.le_of_ble_eq_true rfl) ?_; rw [Tryz.results5, Tryz.ntmps5]; simp only [argsE, Nat.reduceAdd]
    repeat' first
           | (with_reducible apply go_op)
           | (with_reducible apply go_next)
           | ((with_reducible (show evOp _ _ _ _ _ _)); first
             | ((with_reducible (show evOp _ (.move _) _ _ _ _)) ; first | ((with_reducible apply go_mv_bool); rfl; rfl) | ((with_reducible apply go_mv_sl); rfl; rfl))
             | ((with_reducible apply go_as))
             | (((with_reducible apply go_load_own); rfl; rfl; rfl; rfl))
             | (((with_reducible apply go_fieldAddr_own); rfl; rfl; rfl))
             | (((with_reducible apply go_cmp); rfl; rfl; rfl; rfl))
             | ((with_reducible (show evOp _ (.call _) _ _ _ _)) ; first | ((with_reducible apply go_len); rfl; rfl) | ((with_reducible apply go_len_str); rfl; rfl) | ((with_reducible apply go_fn_bool); rfl; (exact c66u); rfl))
             | (((with_reducible apply go_st_agg); rfl; rfl; rfl; rfl; rfl; rfl; rfl))
             | (((with_reducible apply go_not); rfl; rfl))
             | (((with_reducible apply go_pick); rfl; rfl; rfl))
             | (((with_reducible apply go_bx_agg); rfl; rfl; (exact Nat.le_of_ble_eq_true rfl); rfl; rfl))
             | (((with_reducible apply go_alloc); rfl; rfl; rfl)))
           | ((with_reducible (show evOps _ _ _ _ _ _)); first
             | (with_reducible apply go_nil)
             | ((with_reducible apply go_run); rfl; rfl)
             | ((with_reducible apply go_pass); rfl; rfl; rfl)
             | (((with_reducible apply go_guard); rfl) <;> (intro h; simp only [h, Bool.not_true, Bool.not_false]; (try with_reducible (refine ⟨rfl, ?_⟩)); try simp only [decide_eq_true_eq, decide_eq_false_iff_not, Bool.not_eq_true', Bool.not_eq_false', Bool.not_true, Bool.not_false] at h; try exact absurd trivial h))
             | (with_reducible apply go_take)
             | (with_reducible apply go_take0))
           | ((with_reducible (show evG _ _ _ _ _)); first
             | (with_reducible apply go_seq)
             | (with_reducible apply go_region)
             | ((with_reducible apply go_cond_t); rfl; rfl)
             | ((with_reducible apply go_cond_f); rfl; rfl)
             | ((with_reducible apply (go_drawL 12 [[4, 5, 6, 7], [6, 7], []])); decide +kernel; rfl)
             | (with_reducible apply go_ret)
             | (with_reducible apply go_skipc))
           | (with_reducible apply go_klined)
           | (with_reducible apply go_line_drop)
           | (with_reducible apply go_line_drop0)
           | (with_reducible apply go_line)
           | (with_reducible apply go_line_nil)
           | (with_reducible apply go_kln)
           | (with_reducible apply go_again_nil)
           | ((with_reducible apply go_again); rfl; (intro id'))
           | ((with_reducible apply go_kagain); rfl)
           | (with_reducible apply go_kseq)
           | (with_reducible apply go_kseq_ret)
           | ((with_reducible apply end_bool); rfl)
           | (with_reducible rfl)
    all_goals first | rfl | (exfalso; omega) | trace_state
  have h1 := c116 l (by omega)
  have h2 := c_checkRule num den least
  have h3 := c_checkStds [⟨sub, lim⟩] (by simp) (by simpa using hlim)
  rw [if_neg (by simp)] at h3
  by_cases hok : samplesE l = 0 ∧ ruleOK num den least = true ∧ stdsE [⟨sub, lim⟩] = 0
  rotate_left
  · refine contract_of mix Tryz.func5 rfl rfl (by rw [Tryz.ntmps5]; exact Nat.le_of_ble_eq_true rfl) ?_; rw [Tryz.results5, Tryz.ntmps5]; simp only [argsE, Nat.reduceAdd]
    repeat' first
           | (with_reducible apply go_op)
           | (with_reducible apply go_next)
           | ((with_reducible (show evOp _ _ _ _ _ _)); first
             | ((with_reducible (show evOp _ (.move _) _ _ _ _)) ; first | ((with_reducible apply go_mv_bool); rfl; rfl) | ((with_reducible apply go_mv_sl); rfl; rfl))
             | ((with_reducible apply go_as))
             | ((with_reducible (show evOp _ (.load _ _) _ _ _ _)) ; first | ((with_reducible apply go_ld_agg); rfl; rfl; rfl; rfl) | ((with_reducible apply go_load_own); rfl; rfl; rfl; rfl))
             | (((with_reducible apply go_fieldAddr_own); rfl; rfl; rfl))
             | (((with_reducible apply go_cmp); rfl; rfl; rfl; rfl))
             | ((with_reducible (show evOp _ (.call _) _ _ _ _)) ; first | ((with_reducible apply go_len); rfl; rfl) | ((with_reducible apply go_len_str); rfl; rfl) | ((with_reducible apply go_fn_bool); rfl; (exact c66u); rfl) | ((with_reducible apply go_fn_int); rfl; (exact h1); rfl) | ((with_reducible apply go_fn_int); rfl; (exact h2); rfl) | ((with_reducible apply go_fn_int); rfl; (exact h3); rfl))
             | (((with_reducible apply go_st_agg); rfl; rfl; rfl; rfl; rfl; rfl; rfl))
             | (((with_reducible apply go_not); rfl; rfl))
             | (((with_reducible apply go_pick); rfl; rfl; rfl))
             | (((with_reducible apply go_bx_agg); rfl; rfl; (exact Nat.le_of_ble_eq_true rfl); rfl; rfl))
             | (((with_reducible apply go_alloc); rfl; rfl; rfl))
             | (((with_reducible apply go_bs1_agg); rfl; rfl; rfl; rfl; rfl; rfl)))
           | ((with_reducible (show evOps _ _ _ _ _ _)); first
             | (with_reducible apply go_nil)
             | ((with_reducible apply go_run); rfl; rfl)
             | ((with_reducible apply go_pass); rfl; rfl; rfl)
             | (((with_reducible apply go_guard); rfl) <;> (intro h; simp only [h, Bool.not_true, Bool.not_false]; (try with_reducible (refine ⟨rfl, ?_⟩)); try simp only [decide_eq_true_eq, decide_eq_false_iff_not, Bool.not_eq_true', Bool.not_eq_false', Bool.not_true, Bool.not_false] at h; try exact absurd trivial h))
             | (with_reducible apply go_take)
             | (with_reducible apply go_take0))
           | ((with_reducible (show evG _ _ _ _ _)); first
             | (with_reducible apply go_seq)
             | (with_reducible apply go_region)
             | ((with_reducible apply go_cond_t); rfl; rfl)
             | ((with_reducible apply go_cond_f); rfl; rfl)
             | (((with_reducible apply go_cond); rfl) <;> (intro h; simp only [h]; try simp only [decide_eq_true_eq, decide_eq_false_iff_not, Bool.not_eq_true', Bool.not_eq_false', Bool.not_true, Bool.not_false] at h; try exact absurd trivial h))
             | ((with_reducible apply (go_drawL 12 [[4, 5, 6, 7], [6, 7], []])); decide +kernel; rfl)
             | (with_reducible apply go_ret)
             | (with_reducible apply go_skipc))
           | (with_reducible apply go_klined)
           | (with_reducible apply go_line_drop)
           | (with_reducible apply go_line_drop0)
           | (with_reducible apply go_line)
           | (with_reducible apply go_line_nil)
           | (with_reducible apply go_kln)
           | (with_reducible apply go_again_nil)
           | ((with_reducible apply go_again); rfl; (intro id'))
           | ((with_reducible apply go_kagain); rfl)
           | (with_reducible apply go_kseq)
           | (with_reducible apply go_kseq_ret)
           | ((with_reducible apply end_bool); rfl)
           | (with_reducible rfl)
    all_goals first
      | rfl
      | (exfalso; omega)
      | (exfalso; refine hok ⟨by omega, ?_, by omega⟩; rename_i hh _; revert hh; cases ruleOK num den least <;> simp; done)
      | (exfalso; simp_all; done)
      | trace_state
  obtain ⟨hs, hr, ht⟩ := hok
  rw [hs] at h1
  rw [hr, if_pos rfl] at h2
  rw [ht] at h3
  have hrule : (1 ≤ den ∧ den ≤ 1000) ∧ (1 ≤ num ∧ num ≤ den) ∧ 1 ≤ least ∧ least ≤ 60 := of_decide_eq_true hr
  have h4 := c64 l (by omega) q a b
  by_cases hch : chosenE l q a b = 0
  rotate_left
  · rw [chosen_bad rfl hch] at h4
    refine contract_of mix Tryz.func5 rfl rfl (by rw [Tryz.ntmps5]; exact Nat.le_of_ble_eq_true rfl) ?_; rw [Tryz.results5, Tryz.ntmps5]; simp only [argsE, Nat.reduceAdd]
    repeat' first
           | (with_reducible apply go_op)
           | (with_reducible apply go_next)
           | ((with_reducible (show evOp _ _ _ _ _ _)); first
             | ((with_reducible (show evOp _ (.move _) _ _ _ _)) ; first | ((with_reducible apply go_mv_int); rfl; rfl) | ((with_reducible apply go_mv_bool); rfl; rfl) | ((with_reducible apply go_mv_sl); rfl; rfl) | ((with_reducible apply go_mv_os); rfl; rfl) | ((with_reducible apply go_mv_tup); rfl; rfl))
             | ((with_reducible apply go_as))
             | ((with_reducible (show evOp _ (.load _ _) _ _ _ _)) ; first | ((with_reducible apply go_ld_agg); rfl; rfl; rfl; rfl) | ((with_reducible apply go_load_own); rfl; rfl; rfl; rfl))
             | (((with_reducible apply go_fieldAddr_own); rfl; rfl; rfl))
             | (((with_reducible apply go_cmp); rfl; rfl; rfl; rfl))
             | ((with_reducible (show evOp _ (.call _) _ _ _ _)) ; first | ((with_reducible apply go_len); rfl; rfl) | ((with_reducible apply go_len_own); rfl; rfl; rfl) | ((with_reducible apply go_len_str); rfl; rfl) | ((with_reducible apply go_fn_bool); rfl; (exact c66u); rfl) | ((with_reducible apply go_fn_int); rfl; (exact h1); rfl) | ((with_reducible apply go_fn_int); rfl; (exact h2); rfl) | ((with_reducible apply go_fn_int); rfl; (exact h3); rfl) | ((with_reducible apply go_fn_fr2); rfl; (exact h4); (exact scalSample); rfl; rfl))
             | (((with_reducible apply go_st_agg); rfl; rfl; rfl; rfl; rfl; rfl; rfl))
             | (((with_reducible apply go_not); rfl; rfl))
             | (((with_reducible apply go_extract); rfl; rfl))
             | (((with_reducible apply go_pick); rfl; rfl; rfl))
             | (((with_reducible apply go_bx_agg); rfl; rfl; (exact Nat.le_of_ble_eq_true rfl); rfl; rfl))
             | (((with_reducible apply go_alloc); rfl; rfl; rfl))
             | (((with_reducible apply go_bs1_agg); rfl; rfl; rfl; rfl; rfl; rfl)))
           | ((with_reducible (show evOps _ _ _ _ _ _)); first
             | (with_reducible apply go_nil)
             | ((with_reducible apply go_run); rfl; rfl)
             | ((with_reducible apply go_pass); rfl; rfl; rfl)
             | (((with_reducible apply go_guard); rfl) <;> (intro h; simp only [h, Bool.not_true, Bool.not_false]; (try with_reducible (refine ⟨rfl, ?_⟩)); try simp only [decide_eq_true_eq, decide_eq_false_iff_not, Bool.not_eq_true', Bool.not_eq_false', Bool.not_true, Bool.not_false] at h; try exact absurd trivial h))
             | (with_reducible apply go_take)
             | (with_reducible apply go_take0))
           | ((with_reducible (show evG _ _ _ _ _)); first
             | (with_reducible apply go_seq)
             | (with_reducible apply go_region)
             | ((with_reducible apply go_cond_t); rfl; rfl)
             | ((with_reducible apply go_cond_f); rfl; rfl)
             | (((with_reducible apply go_cond); rfl) <;> (intro h; simp only [h]; try simp only [decide_eq_true_eq, decide_eq_false_iff_not, Bool.not_eq_true', Bool.not_eq_false', Bool.not_true, Bool.not_false] at h; try exact absurd trivial h))
             | ((with_reducible apply (go_drawL 12 [[4, 5, 6, 7], [6, 7], []])); decide +kernel; rfl)
             | (with_reducible apply go_ret)
             | (with_reducible apply go_skipc))
           | (with_reducible apply go_klined)
           | (with_reducible apply go_line_drop)
           | (with_reducible apply go_line_drop0)
           | (with_reducible apply go_line)
           | (with_reducible apply go_line_nil)
           | (with_reducible apply go_kln)
           | (with_reducible apply go_again_nil)
           | ((with_reducible apply go_again); rfl; (intro id'))
           | ((with_reducible apply go_kagain); rfl)
           | (with_reducible apply go_kseq)
           | (with_reducible apply go_kseq_ret)
           | ((with_reducible apply end_bool); rfl)
           | (with_reducible rfl)
    all_goals first | rfl | (exfalso; omega) | trace_state
  rw [show chosenR l q a b = (selL l q a b l.length, 0) from if_pos hch] at h4
  have hsel : samplesE (selL l q a b l.length) = 0 := samples_filter (l := l.take l.length) (by rw [List.take_length]; exact hs) _
  have h60 := samples60 hs
  have h5 := c_Class (selL l q a b l.length) (by have := selL_len l q a b l.length; omega) ⟨sub, lim⟩ hlim num den least
  unfold classR at h5
  rw [if_neg (by omega), if_neg (by omega), if_neg (by simp [hr])] at h5
  have hpick := pickL_all l q a b sub
  have hpl := pickL_len l q a b sub l.length
  have hcls : clsR (selL l q a b l.length) ⟨sub, lim⟩ num den least = if ((pickL l q a b sub l.length).length : Int) < least then ((0 : Int), (11 : Int)) else ((((lim.countP fun x => decide (x ≤ rankI (pickL l q a b sub l.length) num den)) : Nat) : Int), (0 : Int)) := by
    unfold clsR
    rw [hpick]
  obtain ⟨N, E, hNE⟩ : ∃ N E, clsR (selL l q a b l.length) ⟨sub, lim⟩ num den least = (N, E) := ⟨_, _, rfl⟩
  rw [hNE] at h5 hcls
  simp only at h5
  obtain ⟨_, hpt⟩ := samples_ok hs
  have hpq : Geo.polyE q = 0 := by
    unfold chosenE at hch
    rw [if_neg (by omega)] at hch
    split at hch
    · rename_i h; exact (h hch).elim
    · omega
  refine contract_of mix Tryz.func5 rfl rfl (by rw [Tryz.ntmps5]; exact Nat.le_of_ble_eq_true rfl) ?_; rw [Tryz.results5, Tryz.ntmps5]; simp only [argsE, Nat.reduceAdd]
  repeat' first
           | (with_reducible apply go_op)
           | (with_reducible apply go_next)
           | ((with_reducible (show evOp _ _ _ _ _ _)); first
             | ((with_reducible (show evOp _ (.move _) _ _ _ _)) ; first | ((with_reducible apply go_mv_int); rfl; rfl) | ((with_reducible apply go_mv_bool); rfl; rfl) | ((with_reducible apply go_mv_sl); rfl; rfl) | ((with_reducible apply go_mv_os); rfl; rfl) | ((with_reducible apply go_mv_nilsl); rfl; rfl) | ((with_reducible apply go_mv_tup); rfl; rfl))
             | ((with_reducible apply go_as))
             | ((with_reducible (show evOp _ (.load _ _) _ _ _ _)) ; first | ((with_reducible apply go_ld_agg); rfl; rfl; rfl; rfl) | ((with_reducible apply go_load_own); rfl; rfl; rfl; rfl))
             | (((with_reducible apply go_fieldAddr_own); rfl; rfl; rfl))
             | (((with_reducible apply go_cmp); rfl; rfl; rfl; rfl))
             | ((with_reducible (show evOp _ (.call _) _ _ _ _)) ; first | ((with_reducible apply go_len); rfl; rfl) | ((with_reducible apply go_len_str); rfl; rfl) | ((with_reducible apply go_fn_bool); rfl; (exact c66u); rfl) | ((with_reducible apply go_fn_int); rfl; (exact h1); rfl) | ((with_reducible apply go_fn_int); rfl; (exact h2); rfl) | ((with_reducible apply go_fn_int); rfl; (exact h3); rfl) | ((with_reducible apply go_fn_fr2); rfl; (exact h4); (exact scalSample); rfl; rfl) | ((with_reducible apply go_fn_plain); (exact purL_os rfl (by simp; try assumption) rfl); (exact h5); rfl; (exact Nat.le_of_ble_eq_true rfl); rfl))
             | (((with_reducible apply go_st_agg); rfl; rfl; rfl; rfl; rfl; rfl; rfl))
             | (((with_reducible apply go_not); rfl; rfl))
             | (((with_reducible apply go_extract); rfl; rfl))
             | (((with_reducible apply go_pick); rfl; rfl; rfl))
             | (((with_reducible apply go_bx_agg); rfl; rfl; (exact Nat.le_of_ble_eq_true rfl); rfl; rfl))
             | (((with_reducible apply go_alloc); rfl; rfl; rfl))
             | (((with_reducible apply go_bs1_agg); rfl; rfl; rfl; rfl; rfl; rfl)))
           | ((with_reducible (show evOps _ _ _ _ _ _)); first
             | (with_reducible apply go_nil)
             | ((with_reducible apply go_run); rfl; rfl)
             | ((with_reducible apply go_pass); rfl; rfl; rfl)
             | (((with_reducible apply go_guard); rfl) <;> (intro h; simp only [h, Bool.not_true, Bool.not_false]; (try with_reducible (refine ⟨rfl, ?_⟩)); try simp only [decide_eq_true_eq, decide_eq_false_iff_not, Bool.not_eq_true', Bool.not_eq_false', Bool.not_true, Bool.not_false] at h; try exact absurd trivial h))
             | (with_reducible apply go_take)
             | (with_reducible apply go_take0))
           | ((with_reducible (show evG _ _ _ _ _)); first
             | (with_reducible apply go_seq)
             | (with_reducible apply go_region)
             | ((with_reducible apply go_cond_t); rfl; rfl)
             | ((with_reducible apply go_cond_f); rfl; rfl)
             | ((with_reducible apply (go_drawL 12 [[4, 5, 6, 7], [6, 7], []])); decide +kernel; rfl)
             | (with_reducible apply go_ret)
             | (with_reducible apply go_skipc)
             | (with_reducible apply go_block))
           | (with_reducible apply go_klined)
           | (with_reducible apply go_line_drop)
           | (with_reducible apply go_line_drop0)
           | (with_reducible apply go_line)
           | (with_reducible apply go_line_nil)
           | (with_reducible apply go_kln)
           | (with_reducible apply go_again_nil)
           | ((with_reducible apply go_again); rfl; (intro id'))
           | ((with_reducible apply go_kagain); rfl)
           | (with_reducible apply go_kseq)
           | (with_reducible apply go_kseq_ret)
           | ((with_reducible apply end_bool); rfl)
           | (with_reducible rfl)
  all_goals try first | rfl | (exfalso; omega)
  refine go_count l.length (fun i => ⟨[(11, .os 0 0 (pickL l q a b sub i).length), (12, .int .i64 i), (3, .sl (l.map encSample)), (4, .op 1 0 0), (5, .op 2 0 0), (6, .op 3 0 0), (9, .int .i64 N), (10, .int .i64 E)], [(0, ⟨1, true, (pickL l q a b sub i).map encInt⟩), (1, ⟨3, false, [[.sl (q.map Geo.encPt), .int .i64 a, .int .i64 b]]⟩), (2, ⟨2, false, [[.str sub, .sl (lim.map encInt)]]⟩), (3, ⟨3, true, [encRule num den least]⟩)], 32, 209⟩) (fun i => True) (entails_eq (nx := 32) (k := 1) (ns := [(11, 0)]) (ks := [12, 3, 4, 5, 6, 9, 10]) [(384, 1), (416, 2), (448, 3)] rfl (by simp; rfl) (by rw [pickL_zero]; kernel_rfl)) trivial ?_
  intro i hi _
  by_cases hlt : i < l.length
  · have hx := Geo.c_Inside q ⟨l[i].x, l[i].y⟩
    rw [show Geo.insX q ⟨l[i].x, l[i].y⟩ = (Geo.insE q ⟨l[i].x, l[i].y⟩, 0) by unfold Geo.insX; rw [if_neg (by omega), if_neg (by rw [hpt i hlt]; simp)]] at hx
    have hx' : Contract Tryz.prog 32 [.sl (q.map Geo.encPt), .agg [.int .i64 l[i].x, .int .i64 l[i].y]] (.ret (.tup [.int .i64 (Geo.insE q ⟨l[i].x, l[i].y⟩), .int .i64 0])) := hx
    have hlen := pickL_len l q a b sub i
    repeat' first
           | (with_reducible apply go_op)
           | (with_reducible apply go_next)
           | ((with_reducible (show evOp _ _ _ _ _ _)); first
             | ((with_reducible (show evOp _ (.move _) _ _ _ _)) ; first | ((with_reducible apply go_mv_int); rfl; rfl) | ((with_reducible apply go_mv_bool); rfl; rfl) | ((with_reducible apply go_mv_sl); rfl; rfl) | ((with_reducible apply go_mv_os); rfl; rfl) | ((with_reducible apply go_mv_tup); rfl; rfl))
             | ((with_reducible apply go_as))
             | ((with_reducible (show evOp _ (.load _ _) _ _ _ _)) ; first | ((with_reducible apply go_load); rfl; rfl; rfl) | ((with_reducible apply go_load_own); rfl; rfl; rfl; rfl))
             | ((with_reducible (show evOp _ (.fieldAddr _ _ _) _ _ _ _)) ; first | ((with_reducible apply go_fieldAddr); rfl; rfl) | ((with_reducible apply go_fieldAddr_own); rfl; rfl; rfl))
             | (((with_reducible apply go_index_nat); rfl; rfl; (with_reducible rfl); (intro; rfl); rfl; omega; (intro hlt)))
             | ((with_reducible (show evOp _ (.binOp _ _ _ _ _) _ _ _ _)) ; first | ((with_reducible apply go_cmp); rfl; rfl; rfl; rfl) | ((with_reducible apply go_add); rfl; rfl; rfl; omega) | ((with_reducible apply go_bin); rfl; rfl))
             | ((with_reducible (show evOp _ (.call _) _ _ _ _)) ; first | ((with_reducible apply go_len); rfl; rfl) | ((with_reducible apply go_len_own); rfl; rfl; rfl) | ((with_reducible apply go_fn_plain); rfl; (exact hx'); rfl; (exact Nat.le_of_ble_eq_true rfl); rfl))
             | (((with_reducible apply go_extract); rfl; rfl))
             | (((with_reducible apply go_pick); rfl; rfl; rfl))
             | (((with_reducible apply go_bd2_int); rfl; rfl; rfl; rfl))
             | (((with_reducible apply go_bs1_int); rfl; rfl; rfl)))
           | ((with_reducible (show evOps _ _ _ _ _ _)); first
             | (with_reducible apply go_nil)
             | ((with_reducible apply go_run); rfl; rfl)
             | ((with_reducible apply go_pass); rfl; rfl; rfl)
             | (((with_reducible apply go_guard); rfl) <;> (intro h; simp only [h, Bool.not_true, Bool.not_false]; (try with_reducible (refine ⟨rfl, ?_⟩)); try simp only [decide_eq_true_eq, decide_eq_false_iff_not, Bool.not_eq_true', Bool.not_eq_false', Bool.not_true, Bool.not_false] at h; try exact absurd trivial h))
             | ((with_reducible apply go_pre); rfl)
             | (with_reducible apply go_pre_nil)
             | ((with_reducible apply go_suf); rfl)
             | (with_reducible apply go_suf_nil))
           | ((with_reducible (show evG _ _ _ _ _)); first
             | (with_reducible apply go_seq)
             | (with_reducible apply go_region)
             | ((with_reducible apply go_cond_f); rfl; rfl)
             | (((with_reducible apply go_cond); rfl) <;> (intro h; simp only [h]; try simp only [decide_eq_true_eq, decide_eq_false_iff_not, Bool.not_eq_true', Bool.not_eq_false', Bool.not_true, Bool.not_false] at h; try exact absurd trivial h))
             | ((with_reducible apply go_order); kernel_rfl; rfl)
             | (with_reducible apply go_ret)
             | (with_reducible apply go_skipc)
             | (with_reducible apply go_block)
             | (with_reducible apply go_exit))
           | (with_reducible apply go_kseq)
           | (with_reducible apply go_ksuf)
           | (with_reducible apply go_kseq_ret)
           | (with_reducible apply go_kblock)
           | (with_reducible apply go_kblock_exit)
           | (with_reducible apply go_kseq_exit)
           | ((with_reducible apply end_bool); rfl)
    all_goals try first
      | exact absurd hlt (by omega)
      | (exfalso; omega)
      | (refine go_app_map (f := encInt) (a := l[i].value) (l := pickL l q a b sub i) scalIntV rfl rfl rfl rfl rfl rfl (by kernel_rfl) (by kernel_rfl) (by omega) rfl ?_)
    repeat' first
           | (with_reducible apply go_op)
           | (with_reducible apply go_next)
           | ((with_reducible (show evOp _ _ _ _ _ _)); first
             | ((with_reducible (show evOp _ (.move _) _ _ _ _)) ; first | ((with_reducible apply go_mv_int); rfl; rfl) | ((with_reducible apply go_mv_os); rfl; rfl))
             | ((with_reducible apply go_as))
             | (((with_reducible apply go_add); rfl; rfl; rfl; omega)))
           | ((with_reducible (show evOps _ _ _ _ _ _)); first
             | (with_reducible apply go_nil))
           | ((with_reducible (show evG _ _ _ _ _)); first
             | (with_reducible apply go_region))
           | (with_reducible apply go_kseq)
           | (with_reducible apply go_kblock)
    all_goals first
      | (have hsl : selB q a b l[i] = true := by
           simp only [selB, Bool.and_eq_true, decide_eq_true_eq]; omega
         have e := pickL_yes (sub := sub) hlt hsl (by assumption)
         have el : (pickL l q a b sub i).length + 1 = (pickL l q a b sub (i + 1)).length := by rw [← e]; simp
         refine ⟨hlt, trivial, ?_⟩
         rw [e, el]
         exact entails_eq (nx := 32) (k := 1) (ns := []) (ks := [11, 12, 3, 4, 5, 6, 9, 10]) [(0, 0), (1, 1), (2, 2), (3, 3)] rfl (by simp) (by kernel_rfl))
      | (have hsl : selB q a b l[i] = false ∨ l[i].sub ≠ sub := by
           first
             | exact .inr (by assumption)
             | (left; simp only [selB, Bool.and_eq_false_iff, decide_eq_false_iff_not]; omega)
         refine ⟨hlt, trivial, ?_⟩
         rw [← pickL_no hlt hsl]
         exact entails_eq (nx := 32) (k := 1) (ns := []) (ks := [11, 12, 3, 4, 5, 6, 9, 10]) [(0, 0), (1, 1), (2, 2), (3, 3)] rfl (by simp) (by kernel_rfl))
      | trace_state
  · have e : i = l.length := by omega
    subst e
    clear hpick hsel h4 hNE
    generalize pickL l q a b sub l.length = V at *
    by_cases hfew : (V.length : Int) < least
    · rw [if_pos hfew] at hcls
      simp only [Prod.mk.injEq] at hcls
      obtain ⟨rfl, rfl⟩ := hcls
      repeat' first
           | (with_reducible apply go_op)
           | (with_reducible apply go_next)
           | ((with_reducible (show evOp _ _ _ _ _ _)); first
             | ((with_reducible (show evOp _ (.move _) _ _ _ _)) ; first | ((with_reducible apply go_mv_int); rfl; rfl) | ((with_reducible apply go_mv_bool); rfl; rfl) | ((with_reducible apply go_mv_sl); rfl; rfl) | ((with_reducible apply go_mv_os); rfl; rfl))
             | ((with_reducible apply go_as))
             | ((with_reducible (show evOp _ (.load _ _) _ _ _ _)) ; first | ((with_reducible apply go_load); rfl; rfl; rfl) | ((with_reducible apply go_load_own); rfl; rfl; rfl; rfl))
             | ((with_reducible (show evOp _ (.fieldAddr _ _ _) _ _ _ _)) ; first | ((with_reducible apply go_fieldAddr); rfl; rfl) | ((with_reducible apply go_fieldAddr_own); rfl; rfl; rfl))
             | (((with_reducible apply go_index_nat); rfl; rfl; (with_reducible rfl); (intro; rfl); rfl; omega; (intro hlt)))
             | (((with_reducible apply go_cmp); rfl; rfl; rfl; rfl))
             | ((with_reducible (show evOp _ (.call _) _ _ _ _)) ; first | ((with_reducible apply go_len); rfl; rfl) | ((with_reducible apply go_len_own); rfl; rfl; rfl))
             | (((with_reducible apply go_pick); rfl; rfl; rfl))
             | (((with_reducible apply go_bd2_int); rfl; rfl; rfl; rfl)))
           | ((with_reducible (show evOps _ _ _ _ _ _)); first
             | (with_reducible apply go_nil)
             | ((with_reducible apply go_run); rfl; rfl)
             | ((with_reducible apply go_pre); rfl))
           | ((with_reducible (show evG _ _ _ _ _)); first
             | (with_reducible apply go_seq)
             | (with_reducible apply go_region)
             | (((with_reducible apply go_cond); rfl) <;> (intro h; simp only [h]; try simp only [decide_eq_true_eq, decide_eq_false_iff_not, Bool.not_eq_true', Bool.not_eq_false', Bool.not_true, Bool.not_false] at h; try exact absurd trivial h))
             | ((with_reducible apply go_order); kernel_rfl; rfl)
             | (with_reducible apply go_ret)
             | (with_reducible apply go_skipc)
             | (with_reducible apply go_block)
             | (with_reducible apply go_exit))
           | (with_reducible apply go_kseq)
           | (with_reducible apply go_kseq_ret)
           | (with_reducible apply go_kblock_exit)
           | (with_reducible apply go_kseq_exit)
           | ((with_reducible apply end_bool); rfl)
      all_goals first | exact absurd hlt (by omega) | rfl | (exfalso; omega) | trace_state
    · rw [if_neg hfew] at hcls
      simp only [Prod.mk.injEq] at hcls
      obtain ⟨hN, rfl⟩ := hcls
      have hbelow := rank_below (V := V) (num := num) (den := den) (by omega) hrule.1.1 hrule.2.1
      have hall : cntL lim (rankI V num den) lim.length = lim.countP fun x => decide (x ≤ rankI V num den) := by unfold cntL; rw [List.take_length]
      rw [← hall] at hN
      generalize rankI V num den = v at *
      have hlp : 0 ≤ (V.length : Int) * num ∧ (V.length : Int) * num ≤ 60000 := by
        refine ⟨Int.mul_nonneg (by omega) (by omega), ?_⟩
        have := Int.mul_le_mul (show (V.length : Int) ≤ 60 by omega) (show num ≤ 1000 by omega) (by omega) (by omega)
        omega
      repeat' first
           | (with_reducible apply go_op)
           | (with_reducible apply go_next)
           | ((with_reducible (show evOp _ _ _ _ _ _)); first
             | ((with_reducible (show evOp _ (.move _) _ _ _ _)) ; first | ((with_reducible apply go_mv_int); rfl; rfl) | ((with_reducible apply go_mv_bool); rfl; rfl) | ((with_reducible apply go_mv_sl); rfl; rfl) | ((with_reducible apply go_mv_os); rfl; rfl))
             | ((with_reducible apply go_as))
             | ((with_reducible (show evOp _ (.load _ _) _ _ _ _)) ; first | ((with_reducible apply go_load); rfl; rfl; rfl) | ((with_reducible apply go_load_own); rfl; rfl; rfl; rfl))
             | ((with_reducible (show evOp _ (.fieldAddr _ _ _) _ _ _ _)) ; first | ((with_reducible apply go_fieldAddr); rfl; rfl) | ((with_reducible apply go_fieldAddr_own); rfl; rfl; rfl))
             | (((with_reducible apply go_index_nat); rfl; rfl; (with_reducible rfl); (intro; rfl); rfl; omega; (intro hlt)))
             | (((with_reducible apply go_cmp); rfl; rfl; rfl; rfl))
             | ((with_reducible (show evOp _ (.call _) _ _ _ _)) ; first | ((with_reducible apply go_len); rfl; rfl) | ((with_reducible apply go_len_own); rfl; rfl; rfl))
             | (((with_reducible apply go_pick); rfl; rfl; rfl))
             | (((with_reducible apply go_bd2_int); rfl; rfl; rfl; rfl)))
           | ((with_reducible (show evOps _ _ _ _ _ _)); first
             | (with_reducible apply go_nil)
             | ((with_reducible apply go_pass); rfl; rfl; rfl)
             | ((with_reducible apply go_pre); rfl))
           | ((with_reducible (show evG _ _ _ _ _)); first
             | (with_reducible apply go_seq)
             | (with_reducible apply go_region)
             | (((with_reducible apply go_cond); rfl) <;> (intro h; simp only [h]; try simp only [decide_eq_true_eq, decide_eq_false_iff_not, Bool.not_eq_true', Bool.not_eq_false', Bool.not_true, Bool.not_false] at h; try exact absurd trivial h))
             | ((with_reducible apply go_order); kernel_rfl; rfl)
             | (with_reducible apply go_ret)
             | (with_reducible apply go_skipc)
             | (with_reducible apply go_block)
             | (with_reducible apply go_exit))
           | (with_reducible apply go_kseq)
           | (with_reducible apply go_kseq_ret)
           | (with_reducible apply go_kblock_exit)
           | (with_reducible apply go_kseq_exit)
           | ((with_reducible apply end_bool); rfl)
      all_goals try first | exact absurd hlt (by omega) | (exfalso; omega)
      refine go_count lim.length (fun k => ⟨[(16, .int .i64 k), (15, .int .i64 (cntL lim v k : Nat)), (11, .os 0 0 V.length), (5, .op 1 0 0), (6, .op 2 0 0), (9, .int .i64 N), (10, .int .i64 0)], [(0, ⟨1, true, V.map encInt⟩), (1, ⟨2, false, [[.str sub, .sl (lim.map encInt)]]⟩), (2, ⟨3, true, [encRule num den least]⟩)], 32, 209⟩) (fun k => True) (entails_eq (nx := 32) (k := 1) (ns := []) (ks := [16, 15, 11, 5, 6, 9, 10]) [(0, 0), (2, 1), (3, 2)] rfl (by simp) (by kernel_rfl)) trivial ?_
      intro k hk _
      by_cases hlk : k < lim.length
      · have e1 := cntL_step (v := v) hlk
        have e2 : cntL lim v k ≤ k := cntL_le
        have hb := hbelow lim[k]
        have hbl : blw V lim[k] V.length = V.countP fun y => decide (y < lim[k]) := by unfold blw; rw [List.take_length]
        rw [← hbl] at hb
        generalize cntL lim v k = c at *
        repeat' first
           | (with_reducible apply go_op)
           | (with_reducible apply go_next)
           | ((with_reducible (show evOp _ _ _ _ _ _)); first
             | ((with_reducible (show evOp _ (.move _) _ _ _ _)) ; first | ((with_reducible apply go_mv_int); rfl; rfl) | ((with_reducible apply go_mv_bool); rfl; rfl))
             | ((with_reducible apply go_as))
             | (((with_reducible apply go_load_own); rfl; rfl; rfl; rfl))
             | (((with_reducible apply go_fieldAddr_own); rfl; rfl; rfl))
             | (((with_reducible apply go_cmp); rfl; rfl; rfl; rfl))
             | (((with_reducible apply go_len); rfl; rfl))
             | (((with_reducible apply go_pick); rfl; rfl; rfl)))
           | ((with_reducible (show evOps _ _ _ _ _ _)); first
             | (with_reducible apply go_nil)
             | ((with_reducible apply go_run); rfl; rfl))
           | ((with_reducible (show evG _ _ _ _ _)); first
             | (with_reducible apply go_seq)
             | (with_reducible apply go_region)
             | (((with_reducible apply go_cond); rfl) <;> (intro h; simp only [h]; try simp only [decide_eq_true_eq, decide_eq_false_iff_not, Bool.not_eq_true', Bool.not_eq_false', Bool.not_true, Bool.not_false] at h; try exact absurd trivial h))
             | (with_reducible apply go_ret)
             | (with_reducible apply go_skipc)
             | (with_reducible apply go_block)
             | (with_reducible apply go_exit))
           | (with_reducible apply go_kseq)
           | (with_reducible apply go_kblock_exit)
           | (with_reducible apply go_kseq_exit)
           | ((with_reducible apply end_bool); rfl)
        all_goals try exact absurd hlk (by omega)
        refine go_count V.length (fun j => ⟨[(18, .int .i64 j), (17, .int .i64 (blw V lim[k] j : Nat)), (16, .int .i64 k), (15, .int .i64 c), (11, .os 0 0 V.length), (5, .op 1 0 0), (6, .op 2 0 0), (9, .int .i64 N), (10, .int .i64 0)], [(0, ⟨1, true, V.map encInt⟩), (1, ⟨2, false, [[.str sub, .sl (lim.map encInt)]]⟩), (2, ⟨3, true, [encRule num den least]⟩)], 32, 209⟩) (fun j => True) (entails_eq (nx := 32) (k := 1) (ns := []) (ks := [18, 17, 16, 15, 11, 5, 6, 9, 10]) [(0, 0), (1, 1), (2, 2)] rfl (by simp) (by rw [blw_zero]; kernel_rfl)) trivial ?_
        intro j hj _
        by_cases hlj : j < V.length
        · have f1 := blw_step (v := lim[k]) hlj
          have e0 : V[0 + j]'(by omega) = V[j] := by simp only [Nat.zero_add]
          rw [← e0] at f1
          have f2 : blw V lim[k] j ≤ j := blw_le
          generalize blw V lim[k] j = d at *
          repeat' first
           | ((with_reducible apply (go_index_oq (i := j))); rfl; rfl; rfl; omega; rfl; rfl; (exact ⟨by omega, by omega⟩); (intro hlt))
           | (with_reducible apply go_op)
           | (with_reducible apply go_next)
           | ((with_reducible (show evOp _ _ _ _ _ _)); first
             | ((with_reducible (show evOp _ (.move _) _ _ _ _)) ; first | ((with_reducible apply go_mv_int); rfl; rfl) | ((with_reducible apply go_mv_os); rfl; rfl))
             | ((with_reducible apply go_as))
             | ((with_reducible (show evOp _ (.load _ _) _ _ _ _)) ; first | ((with_reducible apply go_load_om); rfl; rfl; rfl; rfl; rotate_left; assumption) | ((with_reducible apply go_load); rfl; rfl; rfl) | ((with_reducible apply go_load_own); rfl; rfl; rfl; rfl))
             | (((with_reducible apply go_fieldAddr_own); rfl; rfl; rfl))
             | (((with_reducible apply go_index_nat); rfl; rfl; (with_reducible rfl); (intro; rfl); rfl; omega; (intro hlt)))
             | ((with_reducible (show evOp _ (.binOp _ _ _ _ _) _ _ _ _)) ; first | ((with_reducible apply go_cmp); rfl; rfl; rfl; rfl) | ((with_reducible apply go_add); rfl; rfl; rfl; omega) | ((with_reducible apply go_mul); rfl; rfl; rfl; omega))
             | (((with_reducible apply go_len_own); rfl; rfl; rfl)))
           | ((with_reducible (show evOps _ _ _ _ _ _)); first
             | (with_reducible apply go_nil)
             | ((with_reducible apply go_pre); rfl)
             | (with_reducible apply go_pre_nil)
             | ((with_reducible apply go_suf); rfl)
             | (with_reducible apply go_suf_nil))
           | ((with_reducible (show evG _ _ _ _ _)); first
             | (with_reducible apply go_seq)
             | (with_reducible apply go_region)
             | (((with_reducible apply go_cond); rfl) <;> (intro h; simp only [h]; try simp only [decide_eq_true_eq, decide_eq_false_iff_not, Bool.not_eq_true', Bool.not_eq_false', Bool.not_true, Bool.not_false] at h; try exact absurd trivial h))
             | ((with_reducible apply go_order); kernel_rfl; rfl)
             | (with_reducible apply go_skipc)
             | (with_reducible apply go_block)
             | (with_reducible apply go_exit))
           | (with_reducible apply go_kseq)
           | (with_reducible apply go_ksuf)
           | (with_reducible apply go_kblock)
           | (with_reducible apply go_kblock_exit)
           | (with_reducible apply go_kseq_exit)
          all_goals first
            | exact absurd hlj (by omega)
            | (first | rw [if_pos (by assumption)] at f1 | rw [if_neg (by assumption)] at f1
               refine ⟨by omega, trivial, ?_⟩
               show Entails _ ⟨[(18, .int .i64 (j + 1 : Nat)), (17, .int .i64 (blw V lim[k] (j + 1) : Nat)), (16, .int .i64 k), (15, .int .i64 c), (11, .os 0 0 V.length), (5, .op 1 0 0), (6, .op 2 0 0), (9, .int .i64 N), (10, .int .i64 0)], [(0, ⟨1, true, V.map encInt⟩), (1, ⟨2, false, [[.str sub, .sl (lim.map encInt)]]⟩), (2, ⟨3, true, [encRule num den least]⟩)], 32, 209⟩
               rw [f1]
               exact entails_eq (nx := 32) (k := 1) (ns := []) (ks := [18, 17, 16, 15, 11, 5, 6, 9, 10]) [(0, 0), (1, 1), (2, 2)] rfl (by simp) (by kernel_rfl))
            | trace_state
        · have e : j = V.length := by omega
          subst e
          have f2 : blw V lim[k] V.length ≤ V.length := blw_le
          generalize blw V lim[k] V.length = d at *
          have hdp : 0 ≤ (d : Int) * den ∧ (d : Int) * den ≤ 60000 := by
            refine ⟨Int.mul_nonneg (by omega) (by omega), ?_⟩
            have := Int.mul_le_mul (show (d : Int) ≤ 60 by omega) hrule.1.2 (by omega) (by omega)
            omega
          repeat' first
           | (with_reducible apply go_op)
           | (with_reducible apply go_next)
           | ((with_reducible (show evOp _ _ _ _ _ _)); first
             | ((with_reducible (show evOp _ (.move _) _ _ _ _)) ; first | ((with_reducible apply go_mv_int); rfl; rfl) | ((with_reducible apply go_mv_os); rfl; rfl))
             | ((with_reducible apply go_as))
             | ((with_reducible (show evOp _ (.load _ _) _ _ _ _)) ; first | ((with_reducible apply go_load_om); rfl; rfl; rfl; rfl; rotate_left; assumption) | ((with_reducible apply go_load); rfl; rfl; rfl) | ((with_reducible apply go_load_own); rfl; rfl; rfl; rfl))
             | (((with_reducible apply go_fieldAddr_own); rfl; rfl; rfl))
             | ((with_reducible (show evOp _ (.indexAddr _ _ _) _ _ _ _)) ; first | ((with_reducible apply go_index_nat); rfl; rfl; (with_reducible rfl); (intro; rfl); rfl; omega; (intro hlt)) | ((with_reducible apply go_index_om); rfl; rfl; rfl; (with_reducible rfl); rfl; rfl; omega; (intro hlt)))
             | ((with_reducible (show evOp _ (.binOp _ _ _ _ _) _ _ _ _)) ; first | ((with_reducible apply go_cmp); rfl; rfl; rfl; rfl) | ((with_reducible apply go_add); rfl; rfl; rfl; omega) | ((with_reducible apply go_mul); rfl; rfl; rfl; omega))
             | (((with_reducible apply go_len_own); rfl; rfl; rfl)))
           | ((with_reducible (show evOps _ _ _ _ _ _)); first
             | (with_reducible apply go_nil)
             | ((with_reducible apply go_pre); rfl)
             | (with_reducible apply go_pre_nil)
             | ((with_reducible apply go_suf); rfl)
             | (with_reducible apply go_suf_nil))
           | ((with_reducible (show evG _ _ _ _ _)); first
             | (with_reducible apply go_seq)
             | (with_reducible apply go_region)
             | (((with_reducible apply go_cond); rfl) <;> (intro h; simp only [h]; try simp only [decide_eq_true_eq, decide_eq_false_iff_not, Bool.not_eq_true', Bool.not_eq_false', Bool.not_true, Bool.not_false] at h; try exact absurd trivial h))
             | ((with_reducible apply go_order); kernel_rfl; rfl)
             | (with_reducible apply go_skipc)
             | (with_reducible apply go_block)
             | (with_reducible apply go_exit))
           | (with_reducible apply go_kseq)
           | (with_reducible apply go_ksuf)
           | (with_reducible apply go_kblock)
           | (with_reducible apply go_kblock_exit)
           | (with_reducible apply go_kseq_exit)
          all_goals first
            | exact absurd hlj (by omega)
            | (rw [if_pos (hb.2 (by assumption))] at e1
               refine ⟨by omega, trivial, ?_⟩
               show Entails _ ⟨[(16, .int .i64 (k + 1 : Nat)), (15, .int .i64 (cntL lim v (k + 1) : Nat)), (11, .os 0 0 V.length), (5, .op 1 0 0), (6, .op 2 0 0), (9, .int .i64 N), (10, .int .i64 0)], [(0, ⟨1, true, V.map encInt⟩), (1, ⟨2, false, [[.str sub, .sl (lim.map encInt)]]⟩), (2, ⟨3, true, [encRule num den least]⟩)], 32, 209⟩
               rw [e1]
               exact entails_eq (nx := 32) (k := 1) (ns := []) (ks := [16, 15, 11, 5, 6, 9, 10]) [(0, 0), (1, 1), (2, 2)] rfl (by simp) (by kernel_rfl))
            | (rw [if_neg (fun h => absurd (hb.1 h) (by assumption))] at e1
               refine ⟨by omega, trivial, ?_⟩
               show Entails _ ⟨[(16, .int .i64 (k + 1 : Nat)), (15, .int .i64 (cntL lim v (k + 1) : Nat)), (11, .os 0 0 V.length), (5, .op 1 0 0), (6, .op 2 0 0), (9, .int .i64 N), (10, .int .i64 0)], [(0, ⟨1, true, V.map encInt⟩), (1, ⟨2, false, [[.str sub, .sl (lim.map encInt)]]⟩), (2, ⟨3, true, [encRule num den least]⟩)], 32, 209⟩
               rw [e1]
               exact entails_eq (nx := 32) (k := 1) (ns := []) (ks := [16, 15, 11, 5, 6, 9, 10]) [(0, 0), (1, 1), (2, 2)] rfl (by simp) (by kernel_rfl))
            | trace_state
      · have e : k = lim.length := by omega
        subst e
        rw [← hN]
        repeat' first
           | (with_reducible apply go_op)
           | (with_reducible apply go_next)
           | ((with_reducible (show evOp _ _ _ _ _ _)); first
             | ((with_reducible (show evOp _ (.move _) _ _ _ _)) ; first | ((with_reducible apply go_mv_int); rfl; rfl) | ((with_reducible apply go_mv_bool); rfl; rfl))
             | ((with_reducible apply go_as))
             | (((with_reducible apply go_load_own); rfl; rfl; rfl; rfl))
             | (((with_reducible apply go_fieldAddr_own); rfl; rfl; rfl))
             | (((with_reducible apply go_cmp); rfl; rfl; rfl; rfl))
             | (((with_reducible apply go_len); rfl; rfl))
             | (((with_reducible apply go_pick); rfl; rfl; rfl)))
           | ((with_reducible (show evOps _ _ _ _ _ _)); first
             | (with_reducible apply go_nil)
             | ((with_reducible apply go_run); rfl; rfl))
           | ((with_reducible (show evG _ _ _ _ _)); first
             | (with_reducible apply go_seq)
             | (with_reducible apply go_region)
             | (((with_reducible apply go_cond); rfl) <;> (intro h; simp only [h]; try simp only [decide_eq_true_eq, decide_eq_false_iff_not, Bool.not_eq_true', Bool.not_eq_false', Bool.not_true, Bool.not_false] at h; try exact absurd trivial h))
             | (with_reducible apply go_ret)
             | (with_reducible apply go_skipc)
             | (with_reducible apply go_block)
             | (with_reducible apply go_exit))
           | (with_reducible apply go_kseq)
           | (with_reducible apply go_kblock_exit)
           | (with_reducible apply go_kseq_exit)
           | ((with_reducible apply end_bool); rfl)
        all_goals first
          | exact absurd hlk (by omega)
          | rfl
          | (simp; done)
          | trace_state
end Go.Pv.Soil

open Go Go.Proofs Go.Pv
set_option maxHeartbeats 1000000
set_option maxRecDepth 100000
set_option linter.unusedVariables false
namespace Go.Pv.Soil

theorem own : ownKnob Tryz.prog.godebug = none := by kernel_rfl
theorem laidOut : laidOutB Tryz.prog = true := by kernel_rfl

def okFrac (x : Int × Int) : Prop := I64 x.1 ∧ I64 x.2
def okSoil (s : Soil) : Prop := s.name.size ≤ maxLen ∧ I64 s.a ∧ I64 s.b ∧ I64 s.r ∧ I64 s.h
def okLayer (l : Layer) : Prop := I64 l.top ∧ l.soil.size ≤ maxLen
def okBor (b : Boring) : Prop := b.name.size ≤ maxLen ∧ I64 b.x ∧ I64 b.y ∧ b.layers.length ≤ maxLen ∧ ∀ l ∈ b.layers, okLayer l
def okGround (g : Ground) : Prop := (g.soils.length ≤ maxLen ∧ ∀ s ∈ g.soils, okSoil s) ∧ g.borings.length ≤ maxLen ∧ ∀ b ∈ g.borings, okBor b

theorem rInt : Reads Tryz.prog 3 I64 (fun n => [.int .i64 n]) := reads_i64 Tryz.underlying3 (by kernel_rfl)
theorem rStr : Reads Tryz.prog 9 (fun s : ByteArray => s.size ≤ maxLen) (fun s => [.str s]) := reads_str Tryz.underlying9 (by kernel_rfl)
theorem rSoil : Reads Tryz.prog 108 okSoil encSoil :=
  (reads_struct Tryz.underlying108 (by kernel_rfl) (readsF_cons (k := 1) rStr (by kernel_rfl) rfl (readsF_cons (k := 1) rInt (by kernel_rfl) rfl (readsF_cons (k := 1) rInt (by kernel_rfl) rfl
    (readsF_cons (k := 2) (reads_struct Tryz.underlying106 (by kernel_rfl) (readsF_cons (k := 1) rInt (by kernel_rfl) rfl (readsF_cons (k := 1) rInt (by kernel_rfl) rfl readsF_nil))) (by kernel_rfl) rfl readsF_nil))))).map
    (fun x => ⟨x.1, x.2.1, x.2.2.1, x.2.2.2.1.1, x.2.2.2.1.2.1⟩) (fun _ _ => rfl) (fun _ h => ⟨h.1, h.2.1, h.2.2.1, h.2.2.2.1.1, h.2.2.2.1.2.1⟩) fun _ _ => by kernel_rfl
theorem rSoils : Reads Tryz.prog 78 (fun l : List Soil => l.length ≤ maxLen ∧ ∀ a ∈ l, okSoil a) (fun l => [.sl (l.map encSoil)]) := reads_slice Tryz.underlying78 rSoil (k := 5) (by kernel_rfl) (by decide) (by kernel_rfl)
theorem rLayer : Reads Tryz.prog 110 okLayer encLayer :=
  (reads_struct Tryz.underlying110 (by kernel_rfl) (readsF_cons (k := 1) rInt (by kernel_rfl) rfl (readsF_cons (k := 1) rStr (by kernel_rfl) rfl readsF_nil))).map
    (fun x => ⟨x.1, x.2.1⟩) (fun _ _ => rfl) (fun _ h => ⟨h.1, h.2.1⟩) fun _ _ => by kernel_rfl
theorem rLayers : Reads Tryz.prog 111 (fun l : List Layer => l.length ≤ maxLen ∧ ∀ a ∈ l, okLayer a) (fun l => [.sl (l.map encLayer)]) := reads_slice Tryz.underlying111 rLayer (k := 2) (by kernel_rfl) (by decide) (by kernel_rfl)
theorem rBor : Reads Tryz.prog 113 okBor encBor :=
  (reads_struct Tryz.underlying113 (by kernel_rfl) (readsF_cons (k := 1) rStr (by kernel_rfl) rfl (readsF_cons (k := 1) rInt (by kernel_rfl) rfl (readsF_cons (k := 1) rInt (by kernel_rfl) rfl (readsF_cons (k := 1) rLayers (by kernel_rfl) rfl readsF_nil))))).map
    (fun x => ⟨x.1, x.2.1, x.2.2.1, x.2.2.2.1⟩) (fun _ _ => rfl) (fun _ h => ⟨h.1, h.2.1, h.2.2.1, h.2.2.2.1.1, h.2.2.2.1.2⟩) fun _ _ => by kernel_rfl
theorem rBors : Reads Tryz.prog 79 (fun l : List Boring => l.length ≤ maxLen ∧ ∀ a ∈ l, okBor a) (fun l => [.sl (l.map encBor)]) := reads_slice Tryz.underlying79 rBor (k := 4) (by kernel_rfl) (by decide) (by kernel_rfl)
theorem rGround : Reads Tryz.prog 81 okGround encGround :=
  (reads_struct Tryz.underlying81 (by kernel_rfl) (readsF_cons (k := 1) rSoils (by kernel_rfl) rfl (readsF_cons (k := 1) rBors (by kernel_rfl) rfl readsF_nil))).map
    (fun x => ⟨x.1, x.2.1⟩) (fun _ _ => rfl) (fun _ h => ⟨h.1, h.2.1.1, h.2.1.2⟩) fun _ _ => by kernel_rfl

theorem aGround : ReadsA Tryz.prog [81] okGround (fun g => [.agg (encGround g)]) :=
  (readsA_cons Tryz.underlying81 rGround (g := fun g => .agg (encGround g)) (.inr ⟨rfl, fun _ => rfl⟩) readsA_nil).map (fun x => x.1) (fun _ _ => rfl) (fun _ h => h.1)

theorem aSoilII : ReadsA Tryz.prog [108, 3, 3] (fun x : Soil × Int × Int => okSoil x.1 ∧ I64 x.2.1 ∧ I64 x.2.2) (fun x => [.agg (encSoil x.1), .int .i64 x.2.1, .int .i64 x.2.2]) :=
  (readsA_cons Tryz.underlying108 rSoil (g := fun s => .agg (encSoil s)) (.inr ⟨rfl, fun _ => rfl⟩) (readsA_cons Tryz.underlying3 rInt (g := fun n => .int .i64 n) (.inl ⟨rfl, fun _ => rfl⟩)
    (readsA_cons Tryz.underlying3 rInt (g := fun n => .int .i64 n) (.inl ⟨rfl, fun _ => rfl⟩) readsA_nil))).map (fun x => (x.1, x.2.1, x.2.2.1)) (fun _ _ => rfl) (fun _ h => ⟨h.1, h.2.1, h.2.2.1⟩)

theorem rPt : Reads Tryz.prog 23 (fun p : Pt => I64 p.x ∧ I64 p.y) encPt :=
  (reads_struct Tryz.underlying23 (by kernel_rfl) (readsF_cons (k := 1) rInt (by kernel_rfl) rfl (readsF_cons (k := 1) rInt (by kernel_rfl) rfl readsF_nil))).map
    (fun x => ⟨x.1, x.2.1⟩) (fun _ _ => rfl) (fun _ h => ⟨h.1, h.2.1⟩) fun _ _ => by kernel_rfl
end Go.Pv.Soil

open Go Go.Proofs Go.Pv
set_option maxHeartbeats 1000000
set_option maxRecDepth 100000
set_option linter.unusedVariables false
namespace Go.Pv.Soil
theorem rIntsW : Reads Tryz.prog 26 (fun l : List Int => l.length ≤ maxLen ∧ ∀ a ∈ l, I64 a) (fun l => [.sl (l.map encInt)]) := reads_slice Tryz.underlying26 rInt (k := 1) (by kernel_rfl) (by decide) (by kernel_rfl)
theorem rRuleW : Reads Tryz.prog 48 (fun x : Int × Int × Int => True) (fun x => encRule x.1 x.2.1 x.2.2) :=
  (reads_struct Tryz.underlying48 (by kernel_rfl) (readsF_cons (k := 1) rInt (by kernel_rfl) rfl (readsF_cons (k := 1) rInt (by kernel_rfl) rfl (readsF_cons (k := 1) rInt (by kernel_rfl) rfl readsF_nil)))).map
    (fun x => (x.1, x.2.1, x.2.2.1)) (fun _ _ => rfl) (fun _ h => trivial) fun _ _ => by kernel_rfl
theorem rSampleW : Reads Tryz.prog 57 (fun _ : Sample => True) encSample :=
  (reads_struct Tryz.underlying57 (by kernel_rfl) (readsF_cons (k := 1) rStr (by kernel_rfl) rfl (readsF_cons (k := 1) rStr (by kernel_rfl) rfl (readsF_cons (k := 1) rInt (by kernel_rfl) rfl (readsF_cons (k := 1) rInt (by kernel_rfl) rfl (readsF_cons (k := 1) rInt (by kernel_rfl) rfl
    (readsF_cons (k := 1) rInt (by kernel_rfl) rfl (readsF_cons (k := 1) rInt (by kernel_rfl) rfl readsF_nil)))))))).map
    (fun x => ⟨x.1, x.2.1, x.2.2.1, x.2.2.2.1, x.2.2.2.2.1, x.2.2.2.2.2.1, x.2.2.2.2.2.2.1⟩) (fun _ _ => rfl) (fun _ h => trivial) fun _ _ => by kernel_rfl
theorem rSamplesW : Reads Tryz.prog 45 (fun l : List Sample => l.length ≤ maxLen ∧ ∀ s ∈ l, True) (fun l => [.sl (l.map encSample)]) := reads_slice Tryz.underlying45 rSampleW (k := 7) (by kernel_rfl) (by decide) (by kernel_rfl)
theorem rStdW : Reads Tryz.prog 62 (fun t : Standard => t.sub.size ≤ maxLen ∧ t.limits.length ≤ maxLen) encStd :=
  (reads_struct Tryz.underlying62 (by kernel_rfl) (readsF_cons (k := 1) rStr (by kernel_rfl) rfl (readsF_cons (k := 1) rIntsW (by kernel_rfl) rfl readsF_nil))).map
    (fun x => ⟨x.1, x.2.1⟩) (fun _ _ => rfl) (fun _ h => ⟨h.1, h.2.1.1⟩) fun _ _ => by kernel_rfl
theorem rGPtW : Reads Tryz.prog 23 (fun p : Geo.Pt => True) Geo.encPt :=
  (reads_struct Tryz.underlying23 (by kernel_rfl) (readsF_cons (k := 1) rInt (by kernel_rfl) rfl (readsF_cons (k := 1) rInt (by kernel_rfl) rfl readsF_nil))).map
    (fun x => ⟨x.1, x.2.1⟩) (fun _ _ => rfl) (fun _ h => trivial) fun _ _ => by kernel_rfl
theorem rGPtsW : Reads Tryz.prog 65 (fun l : List Geo.Pt => l.length ≤ maxLen ∧ ∀ p ∈ l, True) (fun l => [.sl (l.map Geo.encPt)]) := reads_slice Tryz.underlying65 rGPtW (k := 2) (by kernel_rfl) (by decide) (by kernel_rfl)
def encAr (x : List Geo.Pt × Int × Int) : List D := [.sl (x.1.map Geo.encPt), .int .i64 x.2.1, .int .i64 x.2.2]
theorem rAreaW : Reads Tryz.prog 67 (fun x : List Geo.Pt × Int × Int => x.1.length ≤ maxLen) encAr :=
  (reads_struct Tryz.underlying67 (by kernel_rfl) (readsF_cons (k := 1) rGPtsW (by kernel_rfl) rfl (readsF_cons (k := 1) rInt (by kernel_rfl) rfl (readsF_cons (k := 1) rInt (by kernel_rfl) rfl readsF_nil)))).map
    (fun x => (x.1, x.2.1, x.2.2.1)) (fun _ _ => rfl) (fun _ h => h.1.1) fun _ _ => by kernel_rfl
theorem rLot : Reads Tryz.prog 69 (fun x : List Sample × (List Geo.Pt × Int × Int) × Standard × (Int × Int × Int) => x.1.length ≤ maxLen ∧ x.2.1.1.length ≤ maxLen ∧ x.2.2.1.limits.length ≤ maxLen ∧ x.2.2.1.sub.size ≤ maxLen) (fun x => encLot x.1 x.2.1.1 x.2.1.2.1 x.2.1.2.2 x.2.2.1.sub x.2.2.1.limits x.2.2.2.1 x.2.2.2.2.1 x.2.2.2.2.2) :=
  (reads_struct Tryz.underlying69 (by kernel_rfl) (readsF_cons (k := 1) rSamplesW (by kernel_rfl) rfl (readsF_cons (k := 3) rAreaW (by kernel_rfl) rfl (readsF_cons (k := 2) rStdW (by kernel_rfl) rfl (readsF_cons (k := 3) rRuleW (by kernel_rfl) rfl readsF_nil))))).map
    (fun x => (x.1, x.2.1, x.2.2.1, x.2.2.2.1)) (fun _ _ => rfl) (fun _ h => ⟨h.1.1, h.2.1, h.2.2.1.2, h.2.2.1.1⟩) fun _ _ => by kernel_rfl
theorem aLot : ReadsA Tryz.prog [69] (fun x : List Sample × (List Geo.Pt × Int × Int) × Standard × (Int × Int × Int) => x.1.length ≤ 9223372036854775807 ∧ x.2.1.1.length ≤ 9223372036854775807 ∧ x.2.2.1.limits.length ≤ 9223372036854775807 ∧ x.2.2.1.sub.size ≤ 9223372036854775807) (fun x => [.agg (encLot x.1 x.2.1.1 x.2.1.2.1 x.2.1.2.2 x.2.2.1.sub x.2.2.1.limits x.2.2.2.1 x.2.2.2.2.1 x.2.2.2.2.2)]) :=
  (readsA_cons Tryz.underlying69 rLot (g := fun x => .agg (encLot x.1 x.2.1.1 x.2.1.2.1 x.2.1.2.2 x.2.2.1.sub x.2.2.1.limits x.2.2.2.1 x.2.2.2.2.1 x.2.2.2.2.2)) (.inr ⟨rfl, fun _ => rfl⟩) readsA_nil).map
    (fun x => x.1) (fun _ _ => rfl) (fun _ h => ⟨Nat.le_trans h.1.1 (by decide), Nat.le_trans h.1.2.1 (by decide), Nat.le_trans h.1.2.2.1 (by decide), Nat.le_trans h.1.2.2.2 (by decide)⟩)
end Go.Pv.Soil

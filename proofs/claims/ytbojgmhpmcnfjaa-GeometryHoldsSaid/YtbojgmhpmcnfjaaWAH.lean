import Derived.Test.YtbojgmhpmcnfjaaProg
import Derived.Test.YtbojgmhpmcnfjaaWAF
import Derived.KernelRfl
import Derived.Test.YtbojgmhpmcnfjaaWAE
import Derived.Test.YtbojgmhpmcnfjaaWAG
import Derived.Test.YtbojgmhpmcnfjaaWAC
/- Part of the proofs over Ytbojgmhpmcnfjaa: H17, H4, JN, HR, HR4. -/
set_option linter.unusedVariables false
set_option linter.unusedSimpArgs false
set_option linter.unnecessarySimpa false
open Go Go.Proofs Go.Pv
set_option maxHeartbeats 4000000
set_option maxRecDepth 100000
set_option linter.unusedSimpArgs false
set_option linter.unusedVariables false
namespace Go.Pv.Geo
def sgnB (b : Bool) : Int := if b = true then 1 else -1
theorem sgnB_bd (b : Bool) : -1 ≤ sgnB b ∧ sgnB b ≤ 1 := by unfold sgnB; split <;> omega
theorem sgnB_not (b : Bool) : sgnB (b ^^ true) = 0 - sgnB b := by cases b <;> rfl
theorem insE_on {l : List Pt} {p : Pt} (h : onAny l p = true) : insE l p = 0 := if_pos h
theorem insE_off {l : List Pt} {p : Pt} (h : onAny l p = false) : insE l p = sgnB (oddR l p l.length) := by
  rw [insE, if_neg (by rw [h]; simp)]; rfl
theorem c_inside (l : List Pt) (h0 : 0 < l.length) (hl : l.length < 1000000000000) (hok : ∀ q ∈ l, ptOK q = true) (p : Pt) (hp : ptOK p = true) : Contract Try.prog 98 [.sl (l.map encPt), .agg (encPt p)] (.ret (.int .i64 (insE l p))) := by
  refine contract_of mix Try.func98 rfl rfl (by rw [Try.ntmps98]; exact Nat.le_of_ble_eq_true rfl) ?_; rw [Try.results98, Try.ntmps98]; simp only [argsE, Nat.reduceAdd]
  repeat' first
           | (with_reducible apply go_op)
           | (with_reducible apply go_next)
           | ((with_reducible (show evOp _ _ _ _ _ _)); first
             | ((with_reducible (show evOp _ (.move _) _ _ _ _)) ; first | ((with_reducible apply go_mv_int); rfl; rfl) | ((with_reducible apply go_mv_sl); rfl; rfl))
             | ((with_reducible apply go_as))
             | (((with_reducible apply go_len); rfl; rfl))
             | (((with_reducible apply go_bx_agg); rfl; rfl; (exact Nat.le_of_ble_eq_true rfl); rfl; rfl)))
           | ((with_reducible (show evOps _ _ _ _ _ _)); first
             | (with_reducible apply go_nil))
           | ((with_reducible (show evG _ _ _ _ _)); first
             | (with_reducible apply go_seq)
             | (with_reducible apply go_region)
             | (with_reducible apply go_block))
           | (with_reducible apply go_kseq)
  refine go_count l.length (fun i => ⟨[(11, .int .i64 i), (10, .int .i64 l.length), (9, .sl (l.map encPt)), (0, .sl (l.map encPt)), (5, .int .i64 (sgnB (oddR l p i))), (3, .op 0 0 0)], [(0, ⟨2, true, [encPt p]⟩)], 32, 54⟩) (fun i => ∀ j, j < i → onE (cornerP l j) (cornerP l (j + 1)) p = false) (entails_eq (nx := 32) (k := 0) (ns := []) (ks := [11, 10, 9, 0, 5, 3]) [(0, 0)] rfl (by simp) (by kernel_rfl)) (fun j hj => absurd hj (by omega)) ?_
  intro i hi hC
  have hin := sgnB_bd (oddR l p i)
  by_cases hlt : i < l.length
  · have ec := cornerP_lt hlt
    have hoa : ptOK l[i] = true := hok _ (List.getElem_mem hlt)
    have hob : ptOK (cornerP l (i + 1)) = true := hok _ (cornerP_mem h0 _)
    have h188 : Contract Try.prog 89 [.sl (l.map encPt), .int .i64 ((i : Int) + 1)] (.ret (.agg (encPt (cornerP l (i + 1))))) := c_corner l h0 hl (i + 1)
    have h189 := c_on l[i] (cornerP l (i + 1)) p hoa hob hp
    have hx1 := c_cross l[i] (cornerP l (i + 1)) p hoa hob hp
    have hx2 := c_cross (cornerP l (i + 1)) l[i] p hob hoa hp
    have hnx : sgnB (oddR l p (i + 1)) = sgnB (oddR l p i ^^ rightX (cornerP l i) (cornerP l (i + 1)) p) := rfl
    have hCon : onE (cornerP l i) (cornerP l (i + 1)) p = false → ∀ j, j < i + 1 → onE (cornerP l j) (cornerP l (j + 1)) p = false := fun h j hj => by
      rcases Nat.lt_succ_iff_lt_or_eq.1 hj with h' | rfl
      · exact hC j h'
      · exact h
    rw [ec] at hnx hCon
    have hres : onE l[i] (cornerP l (i + 1)) p = true → insE l p = 0 := fun h => insE_on (onAny_yes hlt (by rw [ec]; exact h))
    clear hok h0
    generalize cornerP l (i + 1) = b at *
    have hno : rightX l[i] b p = false → sgnB (oddR l p (i + 1)) = sgnB (oddR l p i) := fun h => by rw [hnx, h, Bool.xor_false]
    have hyes : rightX l[i] b p = true → sgnB (oddR l p (i + 1)) = 0 - sgnB (oddR l p i) := fun h => by rw [hnx, h, sgnB_not]
    by_cases hsw : b.y < l[i].y
    · have hr : rightX l[i] b p = decide ((b.y ≤ p.y ∧ p.y < l[i].y) ∧ 0 < crossE b l[i] p) := by simp only [rightX, if_pos hsw]
      rw [hr] at hno hyes
      repeat' first
           | (with_reducible apply go_op)
           | (with_reducible apply go_next)
           | ((with_reducible (show evOp _ _ _ _ _ _)); first
             | ((with_reducible (show evOp _ (.move _) _ _ _ _)) ; first | ((with_reducible apply go_mv_int); rfl; rfl) | ((with_reducible apply go_mv_bool); rfl; rfl) | ((with_reducible apply go_mv_sl); rfl; rfl))
             | ((with_reducible apply go_as))
             | ((with_reducible (show evOp _ (.load _ _) _ _ _ _)) ; first | ((with_reducible apply go_ld_ptr); rfl; rfl; rfl) | ((with_reducible apply go_ld_agg); rfl; rfl; rfl; rfl) | ((with_reducible apply go_load_own); rfl; rfl; rfl; rfl))
             | (((with_reducible apply go_fieldAddr_own); rfl; rfl; rfl))
             | (((with_reducible apply go_index_nat); rfl; rfl; (with_reducible rfl); (intro; rfl); rfl; omega; (intro hlt)))
             | ((with_reducible (show evOp _ (.binOp _ _ _ _ _) _ _ _ _)) ; first | ((with_reducible apply go_cmp); rfl; rfl; rfl; rfl) | ((with_reducible apply go_add); rfl; rfl; rfl; omega))
             | ((with_reducible (show evOp _ (.call _) _ _ _ _)) ; first | ((with_reducible apply go_fn_plain); rfl; (exact h188); rfl; (exact Nat.le_of_ble_eq_true rfl); rfl) | ((with_reducible apply go_fn_bool); rfl; (exact h189); rfl) | ((with_reducible apply go_fn_int); rfl; (exact hx2); rfl))
             | (((with_reducible apply go_st_agg); rfl; rfl; rfl; rfl; rfl; rfl; rfl))
             | (((with_reducible apply go_neg); rfl; rfl; omega))
             | (((with_reducible apply go_pick); rfl; rfl; rfl))
             | (((with_reducible apply go_alloc); rfl; rfl; rfl)))
           | ((with_reducible (show evOps _ _ _ _ _ _)); first
             | (with_reducible apply go_nil)
             | ((with_reducible apply go_run); rfl; rfl)
             | ((with_reducible apply go_pass); rfl; rfl; rfl)
             | (((with_reducible apply go_guard); rfl) <;> (intro h; simp only [h, Bool.not_true, Bool.not_false]; (try with_reducible (refine ⟨rfl, ?_⟩)); try simp only [decide_eq_true_eq, decide_eq_false_iff_not, Bool.not_eq_true', Bool.not_eq_false', Bool.not_true, Bool.not_false] at h; try exact absurd trivial h)))
           | ((with_reducible (show evG _ _ _ _ _)); first
             | (with_reducible apply go_seq)
             | (with_reducible apply go_region)
             | ((with_reducible apply go_cond_f); rfl; rfl)
             | (((with_reducible apply go_cond); rfl) <;> (intro h; simp only [h]; try simp only [decide_eq_true_eq, decide_eq_false_iff_not, Bool.not_eq_true', Bool.not_eq_false', Bool.not_true, Bool.not_false] at h; try exact absurd trivial h))
             | (with_reducible apply go_ret)
             | (with_reducible apply go_skipc)
             | (with_reducible apply go_block)
             | (with_reducible apply go_exit))
           | (with_reducible apply go_kseq)
           | (with_reducible apply go_kseq_ret)
           | (with_reducible apply go_kblock)
           | (with_reducible apply go_kblock_ret)
           | (with_reducible apply go_kblock_exit)
           | (with_reducible apply go_kseq_exit)
           | ((with_reducible apply end_int); rfl)
      all_goals try exact absurd hlt (by omega)
      all_goals first
        | exact (hres (by assumption)).symm
        | (refine ⟨by omega, hCon (by assumption), ?_⟩; rw [hno (decide_eq_false (by omega))]; exact entails_eq (nx := 32) (k := 0) (ns := []) (ks := [11, 10, 9, 0, 5, 3]) [(0, 0)] rfl (by simp) (by kernel_rfl))
        | (refine ⟨by omega, hCon (by assumption), ?_⟩; rw [hyes (decide_eq_true (by omega))]; exact entails_eq (nx := 32) (k := 0) (ns := []) (ks := [11, 10, 9, 0, 5, 3]) [(0, 0)] rfl (by simp) (by kernel_rfl))
        | trace_state
    · have hr : rightX l[i] b p = decide ((l[i].y ≤ p.y ∧ p.y < b.y) ∧ 0 < crossE l[i] b p) := by simp only [rightX, if_neg hsw]
      rw [hr] at hno hyes
      repeat' first
           | (with_reducible apply go_op)
           | (with_reducible apply go_next)
           | ((with_reducible (show evOp _ _ _ _ _ _)); first
             | ((with_reducible (show evOp _ (.move _) _ _ _ _)) ; first | ((with_reducible apply go_mv_int); rfl; rfl) | ((with_reducible apply go_mv_bool); rfl; rfl) | ((with_reducible apply go_mv_sl); rfl; rfl))
             | ((with_reducible apply go_as))
             | ((with_reducible (show evOp _ (.load _ _) _ _ _ _)) ; first | ((with_reducible apply go_ld_ptr); rfl; rfl; rfl) | ((with_reducible apply go_ld_agg); rfl; rfl; rfl; rfl) | ((with_reducible apply go_load_own); rfl; rfl; rfl; rfl))
             | (((with_reducible apply go_fieldAddr_own); rfl; rfl; rfl))
             | (((with_reducible apply go_index_nat); rfl; rfl; (with_reducible rfl); (intro; rfl); rfl; omega; (intro hlt)))
             | ((with_reducible (show evOp _ (.binOp _ _ _ _ _) _ _ _ _)) ; first | ((with_reducible apply go_cmp); rfl; rfl; rfl; rfl) | ((with_reducible apply go_add); rfl; rfl; rfl; omega))
             | ((with_reducible (show evOp _ (.call _) _ _ _ _)) ; first | ((with_reducible apply go_fn_plain); rfl; (exact h188); rfl; (exact Nat.le_of_ble_eq_true rfl); rfl) | ((with_reducible apply go_fn_bool); rfl; (exact h189); rfl) | ((with_reducible apply go_fn_int); rfl; (exact hx1); rfl))
             | (((with_reducible apply go_st_agg); rfl; rfl; rfl; rfl; rfl; rfl; rfl))
             | (((with_reducible apply go_neg); rfl; rfl; omega))
             | (((with_reducible apply go_pick); rfl; rfl; rfl))
             | (((with_reducible apply go_alloc); rfl; rfl; rfl)))
           | ((with_reducible (show evOps _ _ _ _ _ _)); first
             | (with_reducible apply go_nil)
             | ((with_reducible apply go_run); rfl; rfl)
             | ((with_reducible apply go_pass); rfl; rfl; rfl)
             | (((with_reducible apply go_guard); rfl) <;> (intro h; simp only [h, Bool.not_true, Bool.not_false]; (try with_reducible (refine ⟨rfl, ?_⟩)); try simp only [decide_eq_true_eq, decide_eq_false_iff_not, Bool.not_eq_true', Bool.not_eq_false', Bool.not_true, Bool.not_false] at h; try exact absurd trivial h)))
           | ((with_reducible (show evG _ _ _ _ _)); first
             | (with_reducible apply go_seq)
             | (with_reducible apply go_region)
             | ((with_reducible apply go_cond_f); rfl; rfl)
             | (((with_reducible apply go_cond); rfl) <;> (intro h; simp only [h]; try simp only [decide_eq_true_eq, decide_eq_false_iff_not, Bool.not_eq_true', Bool.not_eq_false', Bool.not_true, Bool.not_false] at h; try exact absurd trivial h))
             | (with_reducible apply go_ret)
             | (with_reducible apply go_skipc)
             | (with_reducible apply go_block)
             | (with_reducible apply go_exit))
           | (with_reducible apply go_kseq)
           | (with_reducible apply go_kseq_ret)
           | (with_reducible apply go_kblock)
           | (with_reducible apply go_kblock_ret)
           | (with_reducible apply go_kblock_exit)
           | (with_reducible apply go_kseq_exit)
           | ((with_reducible apply end_int); rfl)
      all_goals try exact absurd hlt (by omega)
      all_goals first
        | exact (hres (by assumption)).symm
        | (refine ⟨by omega, hCon (by assumption), ?_⟩; rw [hno (decide_eq_false (by omega))]; exact entails_eq (nx := 32) (k := 0) (ns := []) (ks := [11, 10, 9, 0, 5, 3]) [(0, 0)] rfl (by simp) (by kernel_rfl))
        | (refine ⟨by omega, hCon (by assumption), ?_⟩; rw [hyes (decide_eq_true (by omega))]; exact entails_eq (nx := 32) (k := 0) (ns := []) (ks := [11, 10, 9, 0, 5, 3]) [(0, 0)] rfl (by simp) (by kernel_rfl))
        | trace_state
  · have e : i = l.length := by omega
    rw [insE_off (onAny_no fun j hj => hC j (by omega))]
    repeat' first
           | (with_reducible apply go_op)
           | (with_reducible apply go_next)
           | ((with_reducible (show evOp _ _ _ _ _ _)); first
             | ((with_reducible (show evOp _ (.move _) _ _ _ _)) ; first | ((with_reducible apply go_mv_int); rfl; rfl) | ((with_reducible apply go_mv_sl); rfl; rfl))
             | ((with_reducible apply go_as))
             | (((with_reducible apply go_ld_ptr); rfl; rfl; rfl))
             | (((with_reducible apply go_index_nat); rfl; rfl; (with_reducible rfl); (intro; rfl); rfl; omega; (intro hlt)))
             | ((with_reducible (show evOp _ (.binOp _ _ _ _ _) _ _ _ _)) ; first | ((with_reducible apply go_cmp); rfl; rfl; rfl; rfl) | ((with_reducible apply go_add); rfl; rfl; rfl; omega))
             | (((with_reducible apply go_st_agg); rfl; rfl; rfl; rfl; rfl; rfl; rfl))
             | (((with_reducible apply go_alloc); rfl; rfl; rfl)))
           | ((with_reducible (show evOps _ _ _ _ _ _)); first
             | (with_reducible apply go_nil))
           | ((with_reducible (show evG _ _ _ _ _)); first
             | (with_reducible apply go_seq)
             | (with_reducible apply go_region)
             | (((with_reducible apply go_cond); rfl) <;> (intro h; simp only [h]; try simp only [decide_eq_true_eq, decide_eq_false_iff_not, Bool.not_eq_true', Bool.not_eq_false', Bool.not_true, Bool.not_false] at h; try exact absurd trivial h))
             | (with_reducible apply go_ret)
             | (with_reducible apply go_skipc)
             | (with_reducible apply go_block)
             | (with_reducible apply go_exit))
           | (with_reducible apply go_kseq)
           | (with_reducible apply go_kblock_exit)
           | (with_reducible apply go_kseq_exit)
           | ((with_reducible apply end_int); rfl)
    all_goals first
      | exact absurd hlt (by omega)
      | (rw [← e])
      | trace_state
theorem insE_up {l : List Pt} {p : Pt} (h : onAny l p = false) : insE l p = sgnB (oddU l p l.length) := by rw [insE_off h, odd_same h]
theorem bxor {A B : Prop} [Decidable A] [Decidable B] : (decide A == decide B) = decide (A ↔ B) := by by_cases h : A <;> by_cases h' : B <;> simp [h, h']
theorem c_rInside (l : List Pt) (h0 : 0 < l.length) (hl : l.length < 1000000000000) (hok : ∀ q ∈ l, ptOK q = true) (p : Pt) (hp : ptOK p = true) : Contract Try.prog 70 [.sl (l.map encPt), .agg (encPt p)] (.ret (.int .i64 (insE l p))) := by
  refine contract_of mix Try.func70 rfl rfl (by rw [Try.ntmps70]; exact Nat.le_of_ble_eq_true rfl) ?_; rw [Try.results70, Try.ntmps70]; simp only [argsE, Nat.reduceAdd]
  repeat' first
           | (with_reducible apply go_op)
           | (with_reducible apply go_next)
           | ((with_reducible (show evOp _ _ _ _ _ _)); first
             | ((with_reducible (show evOp _ (.move _) _ _ _ _)) ; first | ((with_reducible apply go_mv_int); rfl; rfl) | ((with_reducible apply go_mv_bool); rfl; rfl))
             | ((with_reducible apply go_as))
             | (((with_reducible apply go_bx_agg); rfl; rfl; (exact Nat.le_of_ble_eq_true rfl); rfl; rfl)))
           | ((with_reducible (show evOps _ _ _ _ _ _)); first
             | (with_reducible apply go_nil))
           | ((with_reducible (show evG _ _ _ _ _)); first
             | (with_reducible apply go_seq)
             | (with_reducible apply go_region)
             | (with_reducible apply go_block))
           | (with_reducible apply go_kseq)
  refine go_count l.length (fun i => ⟨[(6, .int .i64 i), (0, .sl (l.map encPt)), (5, .bool (oddU l p i)), (3, .op 0 0 0)], [(0, ⟨2, true, [encPt p]⟩)], 32, 53⟩) (fun i => ∀ j, j < i → onE (cornerP l j) (cornerP l (j + 1)) p = false) (entails_eq (nx := 32) (k := 0) (ns := []) (ks := [6, 0, 5, 3]) [(0, 0)] rfl (by simp) (by kernel_rfl)) (fun j hj => absurd hj (by omega)) ?_
  intro i hi hC
  by_cases hlt : i < l.length
  · have hoa : ptOK (cornerP l i) = true := hok _ (cornerP_mem h0 _)
    have hob : ptOK (cornerP l (i + 1)) = true := hok _ (cornerP_mem h0 _)
    have k0 := c_rcorner l h0 hl i
    have k1 : Contract Try.prog 90 [.sl (l.map encPt), .int .i64 ((i : Int) + 1)] (.ret (.agg (encPt (cornerP l (i + 1))))) := c_rcorner l h0 hl (i + 1)
    have hb := c_rbetween (cornerP l i) (cornerP l (i + 1)) p hoa hob hp
    have ho := c_rorient (cornerP l i) (cornerP l (i + 1)) p hoa hob hp
    have hnx : oddU l p (i + 1) = (oddU l p i ^^ upX (cornerP l i) (cornerP l (i + 1)) p) := rfl
    have hCon : onE (cornerP l i) (cornerP l (i + 1)) p = false → ∀ j, j < i + 1 → onE (cornerP l j) (cornerP l (j + 1)) p = false := fun h j hj => by
      rcases Nat.lt_succ_iff_lt_or_eq.1 hj with h' | rfl
      · exact hC j h'
      · exact h
    have hres : onE (cornerP l i) (cornerP l (i + 1)) p = true → insE l p = 0 := fun h => insE_on (onAny_yes hlt h)
    clear hok h0
    generalize cornerP l (i + 1) = b at *
    generalize cornerP l i = a at *
    have hno : upX a b p = false → oddU l p (i + 1) = oddU l p i := fun h => by rw [hnx, h, Bool.xor_false]
    have hyes : upX a b p = true → oddU l p (i + 1) = !oddU l p i := fun h => by rw [hnx, h, Bool.xor_true]
    have hsl := sign_lt (n := crossE a b p)
    unfold upX at hno hyes
    repeat' first
           | (with_reducible apply go_op)
           | (with_reducible apply go_next)
           | ((with_reducible (show evOp _ _ _ _ _ _)); first
             | ((with_reducible (show evOp _ (.move _) _ _ _ _)) ; first | ((with_reducible apply go_mv_int); rfl; rfl) | ((with_reducible apply go_mv_bool); rfl; rfl) | ((with_reducible apply go_mv_sl); rfl; rfl))
             | ((with_reducible apply go_as))
             | ((with_reducible (show evOp _ (.load _ _) _ _ _ _)) ; first | ((with_reducible apply go_ld_agg); rfl; rfl; rfl; rfl) | ((with_reducible apply go_load_own); rfl; rfl; rfl; rfl))
             | (((with_reducible apply go_fieldAddr_own); rfl; rfl; rfl))
             | ((with_reducible (show evOp _ (.binOp _ _ _ _ _) _ _ _ _)) ; first | ((with_reducible apply go_cmp); rfl; rfl; rfl; rfl) | ((with_reducible apply go_add); rfl; rfl; rfl; omega) | ((with_reducible apply go_bin); rfl; rfl))
             | ((with_reducible (show evOp _ (.call _) _ _ _ _)) ; first | ((with_reducible apply go_len); rfl; rfl) | ((with_reducible apply go_fn_plain); rfl; (exact k0); rfl; (exact Nat.le_of_ble_eq_true rfl); rfl) | ((with_reducible apply go_fn_plain); rfl; (exact k1); rfl; (exact Nat.le_of_ble_eq_true rfl); rfl) | ((with_reducible apply go_fn_bool); rfl; (exact hb); rfl) | ((with_reducible apply go_fn_int); rfl; (exact ho); rfl))
             | (((with_reducible apply go_st_agg); rfl; rfl; rfl; rfl; rfl; rfl; rfl))
             | (((with_reducible apply go_not); rfl; rfl))
             | (((with_reducible apply go_pick); rfl; rfl; rfl))
             | (((with_reducible apply go_alloc); rfl; rfl; rfl)))
           | ((with_reducible (show evOps _ _ _ _ _ _)); first
             | (with_reducible apply go_nil)
             | ((with_reducible apply go_run); rfl; rfl)
             | ((with_reducible apply go_pass); rfl; rfl; rfl)
             | (((with_reducible apply go_guard); rfl) <;> (intro h; simp only [h, Bool.not_true, Bool.not_false]; (try with_reducible (refine ⟨rfl, ?_⟩)); try simp only [decide_eq_true_eq, decide_eq_false_iff_not, Bool.not_eq_true', Bool.not_eq_false', Bool.not_true, Bool.not_false] at h; try exact absurd trivial h))
             | ((with_reducible apply go_pre); rfl)
             | (with_reducible apply go_pre_nil)
             | ((with_reducible apply go_suf); rfl)
             | (with_reducible apply go_suf_nil))
           | ((with_reducible (show evG _ _ _ _ _)); first
             | (with_reducible apply go_seq)
             | (with_reducible apply go_region)
             | ((with_reducible apply go_cond_f); rfl; rfl)
             | (((with_reducible apply go_cond); rfl) <;> (intro h; simp only [h]; try simp only [decide_eq_true_eq, decide_eq_false_iff_not, Bool.not_eq_true', Bool.not_eq_false', Bool.not_true, Bool.not_false] at h; try exact absurd trivial h))
             | ((with_reducible apply go_order); kernel_rfl; rfl)
             | (with_reducible apply go_ret)
             | (with_reducible apply go_skipc)
             | (with_reducible apply go_block)
             | (with_reducible apply go_exit))
           | (with_reducible apply go_kseq)
           | (with_reducible apply go_ksuf)
           | (with_reducible apply go_kseq_ret)
           | (with_reducible apply go_kblock)
           | (with_reducible apply go_kblock_ret)
           | (with_reducible apply go_kblock_exit)
           | (with_reducible apply go_kseq_exit)
           | ((with_reducible apply end_int); rfl)
    all_goals try exact absurd hlt (by omega)
    all_goals first
      | exact (hres (by assumption)).symm
      | (have q1 := decide_eq_false_iff_not.1 (bxor.symm.trans ‹(decide (a.x ≤ p.x) == decide (b.x ≤ p.x)) = false›)
         have q2 := of_decide_eq_true (bxor.symm.trans ‹(decide (signE (crossE a b p) < 0) == decide (a.x < b.x)) = true›)
         rw [hsl] at q2
         refine ⟨by omega, hCon (by assumption), ?_⟩; rw [hyes (decide_eq_true ⟨q1, q2⟩)]; exact entails_eq (nx := 32) (k := 0) (ns := []) (ks := [6, 0, 5, 3]) [(0, 0)] rfl (by simp) (by kernel_rfl))
      | (have q2 := decide_eq_false_iff_not.1 (bxor.symm.trans ‹(decide (signE (crossE a b p) < 0) == decide (a.x < b.x)) = false›)
         rw [hsl] at q2
         refine ⟨by omega, hCon (by assumption), ?_⟩; rw [hno (decide_eq_false fun q => q2 q.2)]; exact entails_eq (nx := 32) (k := 0) (ns := []) (ks := [6, 0, 5, 3]) [(0, 0)] rfl (by simp) (by kernel_rfl))
      | (have q1 := of_decide_eq_true (bxor.symm.trans ‹(decide (a.x ≤ p.x) == decide (b.x ≤ p.x)) = true›)
         refine ⟨by omega, hCon (by assumption), ?_⟩; rw [hno (decide_eq_false fun q => q.1 q1)]; exact entails_eq (nx := 32) (k := 0) (ns := []) (ks := [6, 0, 5, 3]) [(0, 0)] rfl (by simp) (by kernel_rfl))
      | trace_state
  · have e : i = l.length := by omega
    rw [insE_up (onAny_no fun j hj => hC j (by omega))]
    subst e
    repeat' first
           | (with_reducible apply go_op)
           | (with_reducible apply go_next)
           | ((with_reducible (show evOp _ _ _ _ _ _)); first
             | ((with_reducible (show evOp _ (.move _) _ _ _ _)) ; first | ((with_reducible apply go_mv_int); rfl; rfl) | ((with_reducible apply go_mv_bool); rfl; rfl) | ((with_reducible apply go_mv_sl); rfl; rfl))
             | ((with_reducible apply go_as))
             | (((with_reducible apply go_cmp); rfl; rfl; rfl; rfl))
             | (((with_reducible apply go_len); rfl; rfl)))
           | ((with_reducible (show evOps _ _ _ _ _ _)); first
             | (with_reducible apply go_nil))
           | ((with_reducible (show evG _ _ _ _ _)); first
             | (with_reducible apply go_seq)
             | (with_reducible apply go_region)
             | (((with_reducible apply go_cond); rfl) <;> (intro h; simp only [h]; try simp only [decide_eq_true_eq, decide_eq_false_iff_not, Bool.not_eq_true', Bool.not_eq_false', Bool.not_true, Bool.not_false] at h; try exact absurd trivial h))
             | (with_reducible apply go_ret)
             | (with_reducible apply go_skipc)
             | (with_reducible apply go_block)
             | (with_reducible apply go_exit))
           | (with_reducible apply go_kseq)
           | (with_reducible apply go_kseq_ret)
           | (with_reducible apply go_kblock_exit)
           | (with_reducible apply go_kseq_exit)
           | ((with_reducible apply end_int); rfl)
    all_goals first
      | exact absurd hlt (by omega)
      | rfl
      | trace_state
/-- What Inside answers. -/
def insX (l : List Pt) (p : Pt) : Int × Int := if polyE l ≠ 0 then (0, polyE l) else if ptOK p = false then (0, 2) else (insE l p, 0)
theorem c_Inside (l : List Pt) (p : Pt) : Contract Try.prog 56 [.sl (l.map encPt), .agg (encPt p)] (.ret (.tup [.int .i64 (insX l p).1, .int .i64 (insX l p).2])) := by
  have hC := c_CheckPolygon l
  have ho := c_outside_1 p
  by_cases hz : polyE l = 0
  rotate_left
  · have e : insX l p = (0, polyE l) := if_pos hz
    rw [e]
    refine contract_of mix Try.func56 rfl rfl (by rw [Try.ntmps56]; exact Nat.le_of_ble_eq_true rfl) ?_; rw [Try.results56, Try.ntmps56]; simp only [argsE, Nat.reduceAdd]
    repeat' first
           | (with_reducible apply go_op)
           | (with_reducible apply go_next)
           | ((with_reducible (show evOp _ _ _ _ _ _)); first
             | ((with_reducible (show evOp _ (.move _) _ _ _ _)) ; first | ((with_reducible apply go_mv_int); rfl; rfl) | ((with_reducible apply go_mv_sl); rfl; rfl))
             | ((with_reducible apply go_as))
             | (((with_reducible apply go_ld_agg); rfl; rfl; rfl; rfl))
             | (((with_reducible apply go_cmp); rfl; rfl; rfl; rfl))
             | (((with_reducible apply go_fn_int); rfl; (exact hC); rfl))
             | (((with_reducible apply go_bx_agg); rfl; rfl; (exact Nat.le_of_ble_eq_true rfl); rfl; rfl))
             | (((with_reducible apply go_bs1_agg); rfl; rfl; rfl; rfl; rfl; rfl)))
           | ((with_reducible (show evOps _ _ _ _ _ _)); first
             | (with_reducible apply go_nil))
           | ((with_reducible (show evG _ _ _ _ _)); first
             | (with_reducible apply go_seq)
             | (with_reducible apply go_region)
             | (((with_reducible apply go_cond); rfl) <;> (intro h; simp only [h]; try simp only [decide_eq_true_eq, decide_eq_false_iff_not, Bool.not_eq_true', Bool.not_eq_false', Bool.not_true, Bool.not_false] at h; try exact absurd trivial h))
             | (with_reducible apply go_ret)
             | (with_reducible apply go_skipc))
           | (with_reducible apply go_kseq)
           | (with_reducible apply go_kseq_ret)
           | ((with_reducible apply end_t2); rfl; rfl; rfl; rfl)
    all_goals first | rfl | (exfalso; omega)
  obtain ⟨⟨h3, h40⟩, hok, -⟩ := poly_ok hz
  cases hp : ptOK p
  · have e : insX l p = (0, 2) := by rw [insX, if_neg (by omega), if_pos hp]
    rw [e]
    rw [hz] at hC
    rw [hp] at ho
    refine contract_of mix Try.func56 rfl rfl (by rw [Try.ntmps56]; exact Nat.le_of_ble_eq_true rfl) ?_; rw [Try.results56, Try.ntmps56]; simp only [argsE, Nat.reduceAdd]
    repeat' first
           | (with_reducible apply go_op)
           | (with_reducible apply go_next)
           | ((with_reducible (show evOp _ _ _ _ _ _)); first
             | ((with_reducible (show evOp _ (.move _) _ _ _ _)) ; first | ((with_reducible apply go_mv_int); rfl; rfl) | ((with_reducible apply go_mv_sl); rfl; rfl))
             | ((with_reducible apply go_as))
             | (((with_reducible apply go_ld_agg); rfl; rfl; rfl; rfl))
             | (((with_reducible apply go_cmp); rfl; rfl; rfl; rfl))
             | ((with_reducible (show evOp _ (.call _) _ _ _ _)) ; first | ((with_reducible apply go_fn_int); rfl; (exact hC); rfl) | ((with_reducible apply go_fn_bool); (exact purL_os rfl (by simp) rfl); (exact ho); rfl))
             | (((with_reducible apply go_bx_agg); rfl; rfl; (exact Nat.le_of_ble_eq_true rfl); rfl; rfl))
             | (((with_reducible apply go_bs1_agg); rfl; rfl; rfl; rfl; rfl; rfl)))
           | ((with_reducible (show evOps _ _ _ _ _ _)); first
             | (with_reducible apply go_nil))
           | ((with_reducible (show evG _ _ _ _ _)); first
             | (with_reducible apply go_seq)
             | (with_reducible apply go_region)
             | ((with_reducible apply go_cond_t); rfl; rfl)
             | ((with_reducible apply go_cond_f); rfl; rfl)
             | (with_reducible apply go_ret)
             | (with_reducible apply go_skipc))
           | (with_reducible apply go_kseq)
           | (with_reducible apply go_kseq_ret)
           | ((with_reducible apply end_t2); rfl; rfl; rfl; rfl)
    all_goals first | rfl | (exfalso; omega)
  · have e : insX l p = (insE l p, 0) := by rw [insX, if_neg (by omega), if_neg (by rw [hp]; simp)]
    rw [e]
    rw [hz] at hC
    rw [hp] at ho
    have hi := c_inside l (by omega) (by omega) hok p hp
    refine contract_of mix Try.func56 rfl rfl (by rw [Try.ntmps56]; exact Nat.le_of_ble_eq_true rfl) ?_; rw [Try.results56, Try.ntmps56]; simp only [argsE, Nat.reduceAdd]
    repeat' first
           | (with_reducible apply go_op)
           | (with_reducible apply go_next)
           | ((with_reducible (show evOp _ _ _ _ _ _)); first
             | ((with_reducible (show evOp _ (.move _) _ _ _ _)) ; first | ((with_reducible apply go_mv_int); rfl; rfl) | ((with_reducible apply go_mv_sl); rfl; rfl))
             | ((with_reducible apply go_as))
             | (((with_reducible apply go_ld_agg); rfl; rfl; rfl; rfl))
             | (((with_reducible apply go_cmp); rfl; rfl; rfl; rfl))
             | ((with_reducible (show evOp _ (.call _) _ _ _ _)) ; first | ((with_reducible apply go_fn_int); rfl; (exact hC); rfl) | ((with_reducible apply go_fn_bool); (exact purL_os rfl (by simp) rfl); (exact ho); rfl) | ((with_reducible apply go_fn_int); rfl; (exact hi); rfl))
             | (((with_reducible apply go_bx_agg); rfl; rfl; (exact Nat.le_of_ble_eq_true rfl); rfl; rfl))
             | (((with_reducible apply go_bs1_agg); rfl; rfl; rfl; rfl; rfl; rfl)))
           | ((with_reducible (show evOps _ _ _ _ _ _)); first
             | (with_reducible apply go_nil))
           | ((with_reducible (show evG _ _ _ _ _)); first
             | (with_reducible apply go_seq)
             | (with_reducible apply go_region)
             | ((with_reducible apply go_cond_f); rfl; rfl)
             | (with_reducible apply go_ret)
             | (with_reducible apply go_skipc))
           | (with_reducible apply go_kseq)
           | ((with_reducible apply end_t2); rfl; rfl; rfl; rfl)
    all_goals first | rfl | (exfalso; omega)
end Go.Pv.Geo

open Go Go.Proofs Go.Pv
set_option maxHeartbeats 4000000
set_option maxRecDepth 100000
set_option linter.unusedSimpArgs false
set_option linter.unusedVariables false
namespace Go.Pv.Geo
/-- The exported functions answer 0 if a point is not in range. -/
def crossX (a b c : Pt) : Int := if (ptOK a && ptOK b && ptOK c) = true then crossE a b c else 0
def sqX (a b : Pt) : Int := if (ptOK a && ptOK b) = true then sqE a b else 0
theorem ok2 {a b : Pt} (h : (ptOK a && ptOK b) = true) : ptOK a = true ∧ ptOK b = true := by simpa using h
theorem ok3 {a b c : Pt} (h : (ptOK a && ptOK b && ptOK c) = true) : ptOK a = true ∧ ptOK b = true ∧ ptOK c = true := by
  simp only [Bool.and_eq_true] at h; exact ⟨h.1.1, h.1.2, h.2⟩
theorem ok4 {a b c d : Pt} (h : (ptOK a && ptOK b && ptOK c && ptOK d) = true) : ptOK a = true ∧ ptOK b = true ∧ ptOK c = true ∧ ptOK d = true := by
  simp only [Bool.and_eq_true] at h; exact ⟨h.1.1.1, h.1.1.2, h.1.2, h.2⟩
theorem c_Cross (a b c : Pt) : Contract Try.prog 59 [.agg (encPt a), .agg (encPt b), .agg (encPt c)] (.ret (.int .i64 (crossX a b c))) := by
  have h1 := c_outside_3 a b c
  unfold crossX
  cases hok : ptOK a && ptOK b && ptOK c
  · rw [hok] at h1
    refine contract_of mix Try.func59 rfl rfl (by rw [Try.ntmps59]; exact Nat.le_of_ble_eq_true rfl) ?_; rw [Try.results59, Try.ntmps59]; simp only [argsE, Nat.reduceAdd]
    repeat' first
           | (with_reducible apply go_op)
           | (with_reducible apply go_next)
           | ((with_reducible (show evOp _ _ _ _ _ _)); first
             | (((with_reducible apply go_mv_int); rfl; rfl))
             | ((with_reducible apply go_as))
             | (((with_reducible apply go_ld_agg); rfl; rfl; rfl; rfl))
             | (((with_reducible apply go_fn_bool); (exact purL_os rfl (by simp) rfl); (exact h1); rfl))
             | (((with_reducible apply go_bx_agg); rfl; rfl; (exact Nat.le_of_ble_eq_true rfl); rfl; rfl))
             | (((with_reducible apply go_bs3_agg); rfl; rfl; rfl; rfl; rfl; rfl; rfl; rfl; rfl; rfl)))
           | ((with_reducible (show evOps _ _ _ _ _ _)); first
             | (with_reducible apply go_nil))
           | ((with_reducible (show evG _ _ _ _ _)); first
             | (with_reducible apply go_seq)
             | (with_reducible apply go_region)
             | ((with_reducible apply go_cond_t); rfl; rfl)
             | (with_reducible apply go_ret))
           | (with_reducible apply go_kseq)
           | (with_reducible apply go_kseq_ret)
           | ((with_reducible apply end_int); rfl)
    all_goals rfl
  · rw [hok] at h1
    obtain ⟨ha, hb, hc⟩ := ok3 hok
    refine contract_of mix Try.func59 rfl rfl (by rw [Try.ntmps59]; exact Nat.le_of_ble_eq_true rfl) ?_; rw [Try.results59, Try.ntmps59]; simp only [argsE, Nat.reduceAdd]
    repeat' first
           | (with_reducible apply go_op)
           | (with_reducible apply go_next)
           | ((with_reducible (show evOp _ _ _ _ _ _)); first
             | (((with_reducible apply go_mv_int); rfl; rfl))
             | ((with_reducible apply go_as))
             | (((with_reducible apply go_ld_agg); rfl; rfl; rfl; rfl))
             | ((with_reducible (show evOp _ (.call _) _ _ _ _)) ; first | ((with_reducible apply go_fn_bool); (exact purL_os rfl (by simp) rfl); (exact h1); rfl) | ((with_reducible apply go_fn_int); rfl; (exact c_cross a b c ha hb hc); rfl))
             | (((with_reducible apply go_bx_agg); rfl; rfl; (exact Nat.le_of_ble_eq_true rfl); rfl; rfl))
             | (((with_reducible apply go_bs3_agg); rfl; rfl; rfl; rfl; rfl; rfl; rfl; rfl; rfl; rfl)))
           | ((with_reducible (show evOps _ _ _ _ _ _)); first
             | (with_reducible apply go_nil))
           | ((with_reducible (show evG _ _ _ _ _)); first
             | (with_reducible apply go_seq)
             | (with_reducible apply go_region)
             | ((with_reducible apply go_cond_f); rfl; rfl)
             | (with_reducible apply go_ret)
             | (with_reducible apply go_skipc))
           | (with_reducible apply go_kseq)
           | ((with_reducible apply end_int); rfl)
    all_goals rfl
theorem c_Orient (a b c : Pt) : Contract Try.prog 55 [.agg (encPt a), .agg (encPt b), .agg (encPt c)] (.ret (.int .i64 (signE (crossX a b c)))) := by
  refine contract_of mix Try.func55 rfl rfl (by rw [Try.ntmps55]; exact Nat.le_of_ble_eq_true rfl) ?_; rw [Try.results55, Try.ntmps55]; simp only [argsE, Nat.reduceAdd]
  repeat' first
           | (with_reducible apply go_op)
           | (with_reducible apply go_next)
           | ((with_reducible (show evOp _ _ _ _ _ _)); first
             | (((with_reducible apply go_mv_int); rfl; rfl))
             | ((with_reducible apply go_as))
             | (((with_reducible apply go_ld_agg); rfl; rfl; rfl; rfl))
             | ((with_reducible (show evOp _ (.call _) _ _ _ _)) ; first | ((with_reducible apply go_fn_int); rfl; (exact c_Cross a b c); rfl) | ((with_reducible apply go_fn_int); rfl; (exact c_compare0 _); rfl))
             | (((with_reducible apply go_bx_agg); rfl; rfl; (exact Nat.le_of_ble_eq_true rfl); rfl; rfl)))
           | ((with_reducible (show evOps _ _ _ _ _ _)); first
             | (with_reducible apply go_nil))
           | ((with_reducible (show evG _ _ _ _ _)); first
             | (with_reducible apply go_seq)
             | (with_reducible apply go_region)
             | (with_reducible apply go_ret))
           | (with_reducible apply go_kseq)
           | ((with_reducible apply end_int); rfl)
           | (with_reducible rfl)
theorem c_Square (a b : Pt) : Contract Try.prog 62 [.agg (encPt a), .agg (encPt b)] (.ret (.int .i64 (sqX a b))) := by
  have h1 := c_outside_2 a b
  unfold sqX
  cases hok : ptOK a && ptOK b
  · rw [hok] at h1
    refine contract_of mix Try.func62 rfl rfl (by rw [Try.ntmps62]; exact Nat.le_of_ble_eq_true rfl) ?_; rw [Try.results62, Try.ntmps62]; simp only [argsE, Nat.reduceAdd]
    repeat' first
           | (with_reducible apply go_op)
           | (with_reducible apply go_next)
           | ((with_reducible (show evOp _ _ _ _ _ _)); first
             | (((with_reducible apply go_mv_int); rfl; rfl))
             | ((with_reducible apply go_as))
             | (((with_reducible apply go_ld_agg); rfl; rfl; rfl; rfl))
             | (((with_reducible apply go_fn_bool); (exact purL_os rfl (by simp) rfl); (exact h1); rfl))
             | (((with_reducible apply go_bx_agg); rfl; rfl; (exact Nat.le_of_ble_eq_true rfl); rfl; rfl))
             | (((with_reducible apply go_bs2_agg); rfl; rfl; rfl; rfl; rfl; rfl; rfl; rfl)))
           | ((with_reducible (show evOps _ _ _ _ _ _)); first
             | (with_reducible apply go_nil))
           | ((with_reducible (show evG _ _ _ _ _)); first
             | (with_reducible apply go_seq)
             | (with_reducible apply go_region)
             | ((with_reducible apply go_cond_t); rfl; rfl)
             | (with_reducible apply go_ret))
           | (with_reducible apply go_kseq)
           | (with_reducible apply go_kseq_ret)
           | ((with_reducible apply end_int); rfl)
    all_goals rfl
  · rw [hok] at h1
    obtain ⟨ha, hb⟩ := ok2 hok
    refine contract_of mix Try.func62 rfl rfl (by rw [Try.ntmps62]; exact Nat.le_of_ble_eq_true rfl) ?_; rw [Try.results62, Try.ntmps62]; simp only [argsE, Nat.reduceAdd]
    repeat' first
           | (with_reducible apply go_op)
           | (with_reducible apply go_next)
           | ((with_reducible (show evOp _ _ _ _ _ _)); first
             | (((with_reducible apply go_mv_int); rfl; rfl))
             | ((with_reducible apply go_as))
             | (((with_reducible apply go_ld_agg); rfl; rfl; rfl; rfl))
             | ((with_reducible (show evOp _ (.call _) _ _ _ _)) ; first | ((with_reducible apply go_fn_bool); (exact purL_os rfl (by simp) rfl); (exact h1); rfl) | ((with_reducible apply go_fn_int); rfl; (exact c_dot a b b ha hb hb); rfl))
             | (((with_reducible apply go_bx_agg); rfl; rfl; (exact Nat.le_of_ble_eq_true rfl); rfl; rfl))
             | (((with_reducible apply go_bs2_agg); rfl; rfl; rfl; rfl; rfl; rfl; rfl; rfl)))
           | ((with_reducible (show evOps _ _ _ _ _ _)); first
             | (with_reducible apply go_nil))
           | ((with_reducible (show evG _ _ _ _ _)); first
             | (with_reducible apply go_seq)
             | (with_reducible apply go_region)
             | ((with_reducible apply go_cond_f); rfl; rfl)
             | (with_reducible apply go_ret)
             | (with_reducible apply go_skipc))
           | (with_reducible apply go_kseq)
           | ((with_reducible apply end_int); rfl)
    all_goals rfl
theorem c_Between (a b p : Pt) : Contract Try.prog 34 [.agg (encPt a), .agg (encPt b), .agg (encPt p)] (.ret (.bool (ptOK a && ptOK b && ptOK p && onE a b p))) := by
  have h1 := c_outside_3 a b p
  cases hok : ptOK a && ptOK b && ptOK p
  · rw [hok] at h1
    refine contract_of mix Try.func34 rfl rfl (by rw [Try.ntmps34]; exact Nat.le_of_ble_eq_true rfl) ?_; rw [Try.results34, Try.ntmps34]; simp only [argsE, Nat.reduceAdd]
    repeat' first
           | (with_reducible apply go_op)
           | (with_reducible apply go_next)
           | ((with_reducible (show evOp _ _ _ _ _ _)); first
             | (((with_reducible apply go_mv_bool); rfl; rfl))
             | ((with_reducible apply go_as))
             | (((with_reducible apply go_ld_agg); rfl; rfl; rfl; rfl))
             | (((with_reducible apply go_fn_bool); (exact purL_os rfl (by simp) rfl); (exact h1); rfl))
             | (((with_reducible apply go_not); rfl; rfl))
             | (((with_reducible apply go_pick); rfl; rfl; rfl))
             | (((with_reducible apply go_bx_agg); rfl; rfl; (exact Nat.le_of_ble_eq_true rfl); rfl; rfl))
             | (((with_reducible apply go_bs3_agg); rfl; rfl; rfl; rfl; rfl; rfl; rfl; rfl; rfl; rfl)))
           | ((with_reducible (show evOps _ _ _ _ _ _)); first
             | (with_reducible apply go_nil)
             | ((with_reducible apply go_pass); rfl; rfl; rfl))
           | ((with_reducible (show evG _ _ _ _ _)); first
             | (with_reducible apply go_seq)
             | (with_reducible apply go_region)
             | (with_reducible apply go_ret))
           | (with_reducible apply go_kseq)
           | ((with_reducible apply end_bool); rfl)
    all_goals rfl
  · rw [hok] at h1
    obtain ⟨ha, hb, hc⟩ := ok3 hok
    refine contract_of mix Try.func34 rfl rfl (by rw [Try.ntmps34]; exact Nat.le_of_ble_eq_true rfl) ?_; rw [Try.results34, Try.ntmps34]; simp only [argsE, Nat.reduceAdd]
    repeat' first
           | (with_reducible apply go_op)
           | (with_reducible apply go_next)
           | ((with_reducible (show evOp _ _ _ _ _ _)); first
             | (((with_reducible apply go_mv_bool); rfl; rfl))
             | ((with_reducible apply go_as))
             | (((with_reducible apply go_ld_agg); rfl; rfl; rfl; rfl))
             | ((with_reducible (show evOp _ (.call _) _ _ _ _)) ; first | ((with_reducible apply go_fn_bool); (exact purL_os rfl (by simp) rfl); (exact h1); rfl) | ((with_reducible apply go_fn_bool); rfl; (exact c_on a b p ha hb hc); rfl))
             | (((with_reducible apply go_not); rfl; rfl))
             | (((with_reducible apply go_pick); rfl; rfl; rfl))
             | (((with_reducible apply go_bx_agg); rfl; rfl; (exact Nat.le_of_ble_eq_true rfl); rfl; rfl))
             | (((with_reducible apply go_bs3_agg); rfl; rfl; rfl; rfl; rfl; rfl; rfl; rfl; rfl; rfl)))
           | ((with_reducible (show evOps _ _ _ _ _ _)); first
             | (with_reducible apply go_nil)
             | ((with_reducible apply go_run); rfl; rfl))
           | ((with_reducible (show evG _ _ _ _ _)); first
             | (with_reducible apply go_seq)
             | (with_reducible apply go_region)
             | (with_reducible apply go_ret))
           | (with_reducible apply go_kseq)
           | ((with_reducible apply end_bool); rfl)
    all_goals rfl
theorem c_Meet (a b c d : Pt) : Contract Try.prog 35 [.agg (encPt a), .agg (encPt b), .agg (encPt c), .agg (encPt d)] (.ret (.bool (ptOK a && ptOK b && ptOK c && ptOK d && meetE a b c d))) := by
  have h1 := c_outside_4 a b c d
  cases hok : ptOK a && ptOK b && ptOK c && ptOK d
  · rw [hok] at h1
    refine contract_of mix Try.func35 rfl rfl (by rw [Try.ntmps35]; exact Nat.le_of_ble_eq_true rfl) ?_; rw [Try.results35, Try.ntmps35]; simp only [argsE, Nat.reduceAdd]
    repeat' first
           | (with_reducible apply go_op)
           | (with_reducible apply go_next)
           | ((with_reducible (show evOp _ _ _ _ _ _)); first
             | (((with_reducible apply go_mv_bool); rfl; rfl))
             | ((with_reducible apply go_as))
             | (((with_reducible apply go_ld_agg); rfl; rfl; rfl; rfl))
             | (((with_reducible apply go_fn_bool); (exact purL_os rfl (by simp) rfl); (exact h1); rfl))
             | (((with_reducible apply go_not); rfl; rfl))
             | (((with_reducible apply go_pick); rfl; rfl; rfl))
             | (((with_reducible apply go_bx_agg); rfl; rfl; (exact Nat.le_of_ble_eq_true rfl); rfl; rfl))
             | (((with_reducible apply go_bs4_agg); rfl; rfl; rfl; rfl; rfl; rfl; rfl; rfl; rfl; rfl; rfl; rfl)))
           | ((with_reducible (show evOps _ _ _ _ _ _)); first
             | (with_reducible apply go_nil)
             | ((with_reducible apply go_pass); rfl; rfl; rfl))
           | ((with_reducible (show evG _ _ _ _ _)); first
             | (with_reducible apply go_seq)
             | (with_reducible apply go_region)
             | (with_reducible apply go_ret))
           | (with_reducible apply go_kseq)
           | ((with_reducible apply end_bool); rfl)
    all_goals rfl
  · rw [hok] at h1
    obtain ⟨ha, hb, hc, hd⟩ := ok4 hok
    refine contract_of mix Try.func35 rfl rfl (by rw [Try.ntmps35]; exact Nat.le_of_ble_eq_true rfl) ?_; rw [Try.results35, Try.ntmps35]; simp only [argsE, Nat.reduceAdd]
    repeat' first
           | (with_reducible apply go_op)
           | (with_reducible apply go_next)
           | ((with_reducible (show evOp _ _ _ _ _ _)); first
             | (((with_reducible apply go_mv_bool); rfl; rfl))
             | ((with_reducible apply go_as))
             | (((with_reducible apply go_ld_agg); rfl; rfl; rfl; rfl))
             | ((with_reducible (show evOp _ (.call _) _ _ _ _)) ; first | ((with_reducible apply go_fn_bool); (exact purL_os rfl (by simp) rfl); (exact h1); rfl) | ((with_reducible apply go_fn_bool); rfl; (exact c_meet a b c d ha hb hc hd); rfl))
             | (((with_reducible apply go_not); rfl; rfl))
             | (((with_reducible apply go_pick); rfl; rfl; rfl))
             | (((with_reducible apply go_bx_agg); rfl; rfl; (exact Nat.le_of_ble_eq_true rfl); rfl; rfl))
             | (((with_reducible apply go_bs4_agg); rfl; rfl; rfl; rfl; rfl; rfl; rfl; rfl; rfl; rfl; rfl; rfl)))
           | ((with_reducible (show evOps _ _ _ _ _ _)); first
             | (with_reducible apply go_nil)
             | ((with_reducible apply go_run); rfl; rfl))
           | ((with_reducible (show evG _ _ _ _ _)); first
             | (with_reducible apply go_seq)
             | (with_reducible apply go_region)
             | (with_reducible apply go_ret))
           | (with_reducible apply go_kseq)
           | ((with_reducible apply end_bool); rfl)
    all_goals rfl
def cr (b c d : Pt) : Int := (b.x - d.x) * (c.y - d.y) - (b.y - d.y) * (c.x - d.x)
def rdetE (a b c d : Pt) : Int := nrm a d * cr b c d - nrm b d * cr a c d + nrm c d * cr a b d
theorem rdet_eq (a b c d : Pt) : rdetE a b c d = detE a b c d := by
  simp only [rdetE, detE, nrm, cr, crs]; grind
theorem det_swap (a b c d : Pt) : detE b a c d = -detE a b c d := by
  simp only [detE, nrm, crs]; grind
theorem cross_swap (a b c : Pt) : crossE b a c = -crossE a b c := by
  simp only [crossE]; grind
theorem sign_neg (n : Int) : signE (-n) = -signE n := by unfold signE; (repeat' split) <;> omega
theorem c_rInCircle (a b c d : Pt) (ka : ptOK a = true) (kb : ptOK b = true) (kc : ptOK c = true) (kd : ptOK d = true) (ha : nearE a d) (hb : nearE b d) (hc : nearE c d) : Contract Try.prog 24 [.agg (encPt a), .agg (encPt b), .agg (encPt c), .agg (encPt d)] (.ret (.int .i64 (signE (detE a b c d) * signE (crossE a b c)))) := by
  have m1 := mulN ha.1 ha.1
  have m2 := mulN hb.1 hb.1
  have m3 := mulN hc.1 hc.1
  have m4 := mulN ha.2 ha.2
  have m5 := mulN hb.2 hb.2
  have m6 := mulN hc.2 hc.2
  have x1 := mulN hb.1 hc.2
  have x2 := mulN hb.2 hc.1
  have x3 := mulN ha.1 hc.2
  have x4 := mulN ha.2 hc.1
  have x5 := mulN ha.1 hb.2
  have x6 := mulN ha.2 hb.1
  have k1 := pt_bd ka
  have k2 := pt_bd kb
  have k3 := pt_bd kc
  have k4 := pt_bd kd
  have t1 := mul_abs (u := (a.x - d.x) * (a.x - d.x) + (a.y - d.y) * (a.y - d.y)) (v := (b.x - d.x) * (c.y - d.y) - (b.y - d.y) * (c.x - d.x)) (A := 800000000) (B := 800000000) (by omega) (by omega)
  have t2 := mul_abs (u := (b.x - d.x) * (b.x - d.x) + (b.y - d.y) * (b.y - d.y)) (v := (a.x - d.x) * (c.y - d.y) - (a.y - d.y) * (c.x - d.x)) (A := 800000000) (B := 800000000) (by omega) (by omega)
  have t3 := mul_abs (u := (c.x - d.x) * (c.x - d.x) + (c.y - d.y) * (c.y - d.y)) (v := (a.x - d.x) * (b.y - d.y) - (a.y - d.y) * (b.x - d.x)) (A := 800000000) (B := 800000000) (by omega) (by omega)
  have hs := sign_mul (rdetE a b c d) (crossE a b c)
  have e : rdetE a b c d = ((a.x - d.x) * (a.x - d.x) + (a.y - d.y) * (a.y - d.y)) * ((b.x - d.x) * (c.y - d.y) - (b.y - d.y) * (c.x - d.x)) - ((b.x - d.x) * (b.x - d.x) + (b.y - d.y) * (b.y - d.y)) * ((a.x - d.x) * (c.y - d.y) - (a.y - d.y) * (c.x - d.x)) + ((c.x - d.x) * (c.x - d.x) + (c.y - d.y) * (c.y - d.y)) * ((a.x - d.x) * (b.y - d.y) - (a.y - d.y) * (b.x - d.x)) := rfl
  rw [← rdet_eq]
  rw [e] at hs ⊢
  refine contract_of mix Try.func24 rfl rfl (by rw [Try.ntmps24]; exact Nat.le_of_ble_eq_true rfl) ?_; rw [Try.results24, Try.ntmps24]; simp only [argsE, Nat.reduceAdd]
  repeat' first
           | (with_reducible apply go_op)
           | (with_reducible apply go_next)
           | ((with_reducible (show evOp _ _ _ _ _ _)); first
             | (((with_reducible apply go_mv_int); rfl; rfl))
             | ((with_reducible apply go_as))
             | ((with_reducible (show evOp _ (.load _ _) _ _ _ _)) ; first | ((with_reducible apply go_ld_agg); rfl; rfl; rfl; rfl) | ((with_reducible apply go_load_own); rfl; rfl; rfl; rfl))
             | (((with_reducible apply go_fieldAddr_own); rfl; rfl; rfl))
             | ((with_reducible (show evOp _ (.binOp _ _ _ _ _) _ _ _ _)) ; first | ((with_reducible apply go_add); rfl; rfl; rfl; omega) | ((with_reducible apply go_sub); rfl; rfl; rfl; omega) | ((with_reducible apply go_mul); rfl; rfl; rfl; omega))
             | ((with_reducible (show evOp _ (.call _) _ _ _ _)) ; first | ((with_reducible apply go_fn_int); rfl; (exact c_sign _); rfl) | ((with_reducible apply go_fn_int); rfl; (exact c_rorient a b c ka kb kc); rfl))
             | (((with_reducible apply go_bx_agg); rfl; rfl; (exact Nat.le_of_ble_eq_true rfl); rfl; rfl)))
           | ((with_reducible (show evOps _ _ _ _ _ _)); first
             | (with_reducible apply go_nil)
             | ((with_reducible apply go_pre); rfl)
             | (with_reducible apply go_pre_nil)
             | ((with_reducible apply go_suf); rfl)
             | (with_reducible apply go_suf_nil))
           | ((with_reducible (show evG _ _ _ _ _)); first
             | (with_reducible apply go_seq)
             | (with_reducible apply go_region)
             | ((with_reducible apply go_order); kernel_rfl; rfl)
             | (with_reducible apply go_ret))
           | (with_reducible apply go_kseq)
           | (with_reducible apply go_ksuf)
           | ((with_reducible apply end_int); rfl)
           | (with_reducible rfl)
end Go.Pv.Geo

open Go Go.Proofs Go.Pv
set_option maxHeartbeats 8000000
set_option maxRecDepth 100000
set_option linter.unusedSimpArgs false
set_option linter.unusedVariables false
namespace Go.Pv.Geo
theorem sign_gt {n : Int} (h : 0 < n) : 0 < signE n := by unfold signE; (repeat' split) <;> omega
theorem crossX_in {a b c : Pt} (ha : ptOK a = true) (hb : ptOK b = true) (hc : ptOK c = true) : crossX a b c = crossE a b c := by unfold crossX; rw [ha, hb, hc]; rfl
theorem sign_nlt {n : Int} (h : 0 ≤ n) : ¬ signE n < 0 := by rw [sign_lt0]; omega
theorem poly_hull {L H : List Pt} (h : HullOf L H) (h3 : 3 ≤ H.length) (h40 : H.length ≤ 40) (hok : ∀ p ∈ L, ptOK p = true) : polyE H = 0 := by
  unfold polyE
  rw [if_neg (by omega), if_neg (by omega), if_neg, if_pos (h.simple h3)]
  intro hh
  obtain ⟨p, hp, e⟩ := List.any_eq_true.1 hh
  rw [hok p (h.mem p hp)] at e
  simp at e
/-- Some point of the first m is the corner. -/
def seenT (l : List Pt) (a : Pt) (m : Nat) : Bool := (l.take m).any fun p => ptEq p a
theorem seenT_step {l : List Pt} {a : Pt} {m : Nat} (h : m < l.length) : seenT l a (m + 1) = (seenT l a m || ptEq l[m] a) := by
  unfold seenT
  rw [List.take_add_one, List.getElem?_eq_getElem h, List.any_append]
  simp
theorem seenT_all {l : List Pt} {a : Pt} (h : a ∈ l) : seenT l a l.length = true := by
  unfold seenT
  rw [List.take_length, List.any_eq_true]
  exact ⟨a, h, ptEq_iff.2 rfl⟩
theorem c_law13 (l : List Pt) (hl : l.length ≤ 9223372036854775807) : Contract Try.prog 13 [.sl (l.map encPt)] (.ret (.bool true)) := by
  by_cases h64 : l.length ≤ 64
  rotate_left
  · refine contract_of mix Try.func13 rfl rfl (by rw [Try.ntmps13]; exact Nat.le_of_ble_eq_true rfl) ?_; rw [Try.results13, Try.ntmps13]; simp only [argsE, Nat.reduceAdd]
    repeat' first
           | (with_reducible apply go_op)
           | (with_reducible apply go_next)
           | ((with_reducible (show evOp _ _ _ _ _ _)); first
             | ((with_reducible (show evOp _ (.move _) _ _ _ _)) ; first | ((with_reducible apply go_mv_bool); rfl; rfl) | ((with_reducible apply go_mv_sl); rfl; rfl))
             | ((with_reducible apply go_as))
             | (((with_reducible apply go_cmp); rfl; rfl; rfl; rfl))
             | ((with_reducible (show evOp _ (.call _) _ _ _ _)) ; first | ((with_reducible apply go_len); rfl; rfl) | ((with_reducible apply go_fn_bool); rfl; (exact c_awake); rfl))
             | (((with_reducible apply go_not); rfl; rfl)))
           | ((with_reducible (show evOps _ _ _ _ _ _)); first
             | (with_reducible apply go_nil))
           | ((with_reducible (show evG _ _ _ _ _)); first
             | (with_reducible apply go_seq)
             | (with_reducible apply go_region)
             | ((with_reducible apply go_cond_f); rfl; rfl)
             | (((with_reducible apply go_cond); rfl) <;> (intro h; simp only [h]; try simp only [decide_eq_true_eq, decide_eq_false_iff_not, Bool.not_eq_true', Bool.not_eq_false', Bool.not_true, Bool.not_false] at h; try exact absurd trivial h))
             | (with_reducible apply go_ret)
             | (with_reducible apply go_skipc))
           | (with_reducible apply go_kseq)
           | (with_reducible apply go_kseq_ret)
           | ((with_reducible apply end_bool); rfl)
           | (with_reducible rfl)
    all_goals (exfalso; omega)
  have h1 := c_Hull l (by omega)
  by_cases hz : chkE l = 0
  rotate_left
  · generalize chkE l = e at *
    refine contract_of mix Try.func13 rfl rfl (by rw [Try.ntmps13]; exact Nat.le_of_ble_eq_true rfl) ?_; rw [Try.results13, Try.ntmps13]; simp only [argsE, Nat.reduceAdd]
    repeat' first
           | (with_reducible apply go_op)
           | (with_reducible apply go_next)
           | ((with_reducible (show evOp _ _ _ _ _ _)); first
             | ((with_reducible (show evOp _ (.move _) _ _ _ _)) ; first | ((with_reducible apply go_mv_int); rfl; rfl) | ((with_reducible apply go_mv_bool); rfl; rfl) | ((with_reducible apply go_mv_sl); rfl; rfl) | ((with_reducible apply go_mv_os); rfl; rfl) | ((with_reducible apply go_mv_tup); rfl; rfl))
             | ((with_reducible apply go_as))
             | (((with_reducible apply go_cmp); rfl; rfl; rfl; rfl))
             | ((with_reducible (show evOp _ (.call _) _ _ _ _)) ; first | ((with_reducible apply go_len); rfl; rfl) | ((with_reducible apply go_len_own); rfl; rfl; rfl) | ((with_reducible apply go_fn_bool); rfl; (exact c_awake); rfl) | ((with_reducible apply go_fn_fr2); rfl; (exact h1); (exact scalPt); rfl; rfl))
             | (((with_reducible apply go_not); rfl; rfl))
             | (((with_reducible apply go_extract); rfl; rfl))
             | (((with_reducible apply go_pick); rfl; rfl; rfl)))
           | ((with_reducible (show evOps _ _ _ _ _ _)); first
             | (with_reducible apply go_nil)
             | ((with_reducible apply go_run); rfl; rfl)
             | ((with_reducible apply go_pass); rfl; rfl; rfl)
             | (((with_reducible apply go_guard); rfl) <;> (intro h; simp only [h, Bool.not_true, Bool.not_false]; (try with_reducible (refine ⟨rfl, ?_⟩)); try simp only [decide_eq_true_eq, decide_eq_false_iff_not, Bool.not_eq_true', Bool.not_eq_false', Bool.not_true, Bool.not_false] at h; try exact absurd trivial h)))
           | ((with_reducible (show evG _ _ _ _ _)); first
             | (with_reducible apply go_seq)
             | (with_reducible apply go_region)
             | ((with_reducible apply go_cond_t); rfl; rfl)
             | ((with_reducible apply go_cond_f); rfl; rfl)
             | (((with_reducible apply go_cond); rfl) <;> (intro h; simp only [h]; try simp only [decide_eq_true_eq, decide_eq_false_iff_not, Bool.not_eq_true', Bool.not_eq_false', Bool.not_true, Bool.not_false] at h; try exact absurd trivial h))
             | (with_reducible apply go_ret)
             | (with_reducible apply go_skipc)
             | (with_reducible apply go_block))
           | (with_reducible apply go_kseq)
           | (with_reducible apply go_kseq_ret)
           | ((with_reducible apply end_bool); rfl)
           | (with_reducible rfl)
    all_goals first
      | (exfalso; omega)
      | (simp; done)
      | trace_state
  obtain ⟨-, hok⟩ := chk_ok hz
  have hll := hullR_len hok
  rw [show hullX l = hullR l from if_pos hz, hz] at h1
  by_cases h3 : 3 ≤ (hullR l).length
  rotate_left
  · generalize hullR l = H at *
    refine contract_of mix Try.func13 rfl rfl (by rw [Try.ntmps13]; exact Nat.le_of_ble_eq_true rfl) ?_; rw [Try.results13, Try.ntmps13]; simp only [argsE, Nat.reduceAdd]
    repeat' first
           | (with_reducible apply go_op)
           | (with_reducible apply go_next)
           | ((with_reducible (show evOp _ _ _ _ _ _)); first
             | ((with_reducible (show evOp _ (.move _) _ _ _ _)) ; first | ((with_reducible apply go_mv_int); rfl; rfl) | ((with_reducible apply go_mv_bool); rfl; rfl) | ((with_reducible apply go_mv_sl); rfl; rfl) | ((with_reducible apply go_mv_os); rfl; rfl) | ((with_reducible apply go_mv_tup); rfl; rfl))
             | ((with_reducible apply go_as))
             | (((with_reducible apply go_cmp); rfl; rfl; rfl; rfl))
             | ((with_reducible (show evOp _ (.call _) _ _ _ _)) ; first | ((with_reducible apply go_len); rfl; rfl) | ((with_reducible apply go_len_own); rfl; rfl; rfl) | ((with_reducible apply go_fn_bool); rfl; (exact c_awake); rfl) | ((with_reducible apply go_fn_fr2); rfl; (exact h1); (exact scalPt); rfl; rfl))
             | (((with_reducible apply go_not); rfl; rfl))
             | (((with_reducible apply go_extract); rfl; rfl))
             | (((with_reducible apply go_pick); rfl; rfl; rfl)))
           | ((with_reducible (show evOps _ _ _ _ _ _)); first
             | (with_reducible apply go_nil)
             | ((with_reducible apply go_run); rfl; rfl))
           | ((with_reducible (show evG _ _ _ _ _)); first
             | (with_reducible apply go_seq)
             | (with_reducible apply go_region)
             | ((with_reducible apply go_cond_f); rfl; rfl)
             | (((with_reducible apply go_cond); rfl) <;> (intro h; simp only [h]; try simp only [decide_eq_true_eq, decide_eq_false_iff_not, Bool.not_eq_true', Bool.not_eq_false', Bool.not_true, Bool.not_false] at h; try exact absurd trivial h))
             | (with_reducible apply go_ret)
             | (with_reducible apply go_skipc)
             | (with_reducible apply go_block))
           | (with_reducible apply go_kseq)
           | (with_reducible apply go_kseq_ret)
           | ((with_reducible apply end_bool); rfl)
           | (with_reducible rfl)
    all_goals first
      | (exfalso; omega)
      | (simp; done)
      | (simp; omega)
      | trace_state
  have hH : HullOf l (hullR l) := (hullR_of hok (by
    apply Classical.byContradiction; intro hn
    have e : hullR l = ordL l := if_pos (by omega)
    rw [e] at h3; omega)).1
  generalize hullR l = H at *
  refine contract_of mix Try.func13 rfl rfl (by rw [Try.ntmps13]; exact Nat.le_of_ble_eq_true rfl) ?_; rw [Try.results13, Try.ntmps13]; simp only [argsE, Nat.reduceAdd]
  repeat' first
           | (with_reducible apply go_op)
           | (with_reducible apply go_next)
           | ((with_reducible (show evOp _ _ _ _ _ _)); first
             | ((with_reducible (show evOp _ (.move _) _ _ _ _)) ; first | ((with_reducible apply go_mv_int); rfl; rfl) | ((with_reducible apply go_mv_bool); rfl; rfl) | ((with_reducible apply go_mv_sl); rfl; rfl) | ((with_reducible apply go_mv_os); rfl; rfl) | ((with_reducible apply go_mv_tup); rfl; rfl))
             | ((with_reducible apply go_as))
             | (((with_reducible apply go_cmp); rfl; rfl; rfl; rfl))
             | ((with_reducible (show evOp _ (.call _) _ _ _ _)) ; first | ((with_reducible apply go_len); rfl; rfl) | ((with_reducible apply go_len_own); rfl; rfl; rfl) | ((with_reducible apply go_fn_bool); rfl; (exact c_awake); rfl) | ((with_reducible apply go_fn_fr2); rfl; (exact h1); (exact scalPt); rfl; rfl))
             | (((with_reducible apply go_not); rfl; rfl))
             | (((with_reducible apply go_extract); rfl; rfl))
             | (((with_reducible apply go_pick); rfl; rfl; rfl)))
           | ((with_reducible (show evOps _ _ _ _ _ _)); first
             | (with_reducible apply go_nil)
             | ((with_reducible apply go_run); rfl; rfl))
           | ((with_reducible (show evG _ _ _ _ _)); first
             | (with_reducible apply go_seq)
             | (with_reducible apply go_region)
             | ((with_reducible apply go_cond_f); rfl; rfl)
             | (((with_reducible apply go_cond); rfl) <;> (intro h; simp only [h]; try simp only [decide_eq_true_eq, decide_eq_false_iff_not, Bool.not_eq_true', Bool.not_eq_false', Bool.not_true, Bool.not_false] at h; try exact absurd trivial h))
             | (with_reducible apply go_ret)
             | (with_reducible apply go_skipc)
             | (with_reducible apply go_block))
           | (with_reducible apply go_kseq)
           | (with_reducible apply go_kseq_ret)
           | ((with_reducible apply end_bool); rfl)
           | (with_reducible rfl)
  all_goals try (exfalso; omega)
  refine go_count H.length (fun i => ⟨[(5, .int .i64 i), (3, .os 0 0 H.length), (0, .sl (l.map encPt))], [(0, ⟨2, true, H.map encPt⟩)], 32, 125⟩) (fun i => True)
    (entails_eq (nx := 32) (k := 0) (ns := []) (ks := [5, 3, 0]) [(224, 0)] rfl (by simp) (by kernel_rfl)) trivial ?_
  intro i hi _
  by_cases hlt : i < H.length
  · have hc0 : ∀ h : i < H.length, H[i]'h = cornerP H i := fun h => (cornerP_lt h).symm
    have hc1 : ∀ h : 0 + (i + 1) % H.length < H.length, H[0 + (i + 1) % H.length]'h = cornerP H (i + 1) := fun h => by rw [cornerP_get (by omega) (i + 1)]; congr 1; omega
    have hc2 : ∀ h : 0 + (i + 2) % H.length < H.length, H[0 + (i + 2) % H.length]'h = cornerP H (i + 2) := fun h => by rw [cornerP_get (by omega) (i + 2)]; congr 1; omega
    have q1 := (hH.edgeC i).left
    have q2 := hH.turn h3 i
    have k0 := hH.memC i
    have k1 := hH.memC (i + 1)
    have k2 := hH.memC (i + 2)
    have e1 : ((i : Int) + 1) % (H.length : Int) = (((i + 1) % H.length : Nat) : Int) := by simp
    have e2 : ((i : Int) + 2) % (H.length : Int) = (((i + 2) % H.length : Nat) : Int) := by simp
    have m1 := Nat.mod_lt (i + 1) (show 0 < H.length by omega)
    have m2 := Nat.mod_lt (i + 2) (show 0 < H.length by omega)
    generalize (i + 1) % H.length = j1 at *
    generalize (i + 2) % H.length = j2 at *
    generalize cornerP H i = a at *
    generalize cornerP H (i + 1) = b at *
    generalize cornerP H (i + 2) = c at *
    repeat' first
           | ((with_reducible apply (go_index_oq (i := j1))); rfl; rfl; rfl; omega; rfl; rfl; (exact ⟨by omega, by omega⟩); (intro hlt))
           | ((with_reducible apply (go_index_oq (i := j2))); rfl; rfl; rfl; omega; rfl; rfl; (exact ⟨by omega, by omega⟩); (intro hlt))
           | (with_reducible apply go_op)
           | (with_reducible apply go_next)
           | ((with_reducible (show evOp _ _ _ _ _ _)); first
             | ((with_reducible (show evOp _ (.move _) _ _ _ _)) ; first | ((with_reducible apply go_mv_int); rfl; rfl) | ((with_reducible apply go_mv_bool); rfl; rfl) | ((with_reducible apply go_mv_os); rfl; rfl))
             | ((with_reducible apply go_as))
             | (((with_reducible apply go_load_om); rfl; rfl; rfl; rfl; rotate_left; assumption))
             | (((with_reducible apply go_index_om); rfl; rfl; rfl; (with_reducible rfl); rfl; rfl; omega; (intro hlt)))
             | ((with_reducible (show evOp _ (.binOp _ _ _ _ _) _ _ _ _)) ; first | ((with_reducible apply go_cmp); rfl; rfl; rfl; rfl) | ((with_reducible apply go_add); rfl; rfl; rfl; omega) | ((with_reducible apply go_rem_pos); rfl; rfl; rfl; omega))
             | (((with_reducible apply go_len_own); rfl; rfl; rfl))
             | (((with_reducible apply go_st_agg); rfl; rfl; rfl; rfl; rfl; rfl; rfl))
             | (((with_reducible apply go_alloc); rfl; rfl; rfl)))
           | ((with_reducible (show evOps _ _ _ _ _ _)); first
             | (with_reducible apply go_nil)
             | (with_reducible apply go_take)
             | (with_reducible apply go_take0))
           | ((with_reducible (show evG _ _ _ _ _)); first
             | (with_reducible apply go_seq)
             | (with_reducible apply go_region)
             | (((with_reducible apply go_cond); rfl) <;> (intro h; simp only [h]; try simp only [decide_eq_true_eq, decide_eq_false_iff_not, Bool.not_eq_true', Bool.not_eq_false', Bool.not_true, Bool.not_false] at h; try exact absurd trivial h))
             | ((with_reducible apply (go_drawL 23 [[4, 5, 6, 7, 8, 9, 10, 11, 12, 13, 14, 15, 16, 17, 18, 19], [12, 13, 14, 15, 16, 17, 18, 19], []])); decide +kernel; rfl)
             | (with_reducible apply go_ret)
             | (with_reducible apply go_skipc)
             | (with_reducible apply go_block)
             | (with_reducible apply go_exit))
           | (with_reducible apply go_klined)
           | (with_reducible apply go_line_drop)
           | (with_reducible apply go_line_drop0)
           | (with_reducible apply go_line)
           | (with_reducible apply go_line_nil)
           | (with_reducible apply go_kln)
           | (with_reducible apply go_again_nil)
           | ((with_reducible apply go_again); rfl; (intro id'))
           | ((with_reducible apply go_kagain); rfl)
           | (with_reducible apply go_kseq)
           | (with_reducible apply go_kseq_ret)
           | (with_reducible apply go_kblock_exit)
           | (with_reducible apply go_kseq_exit)
           | ((with_reducible apply end_bool); rfl)
           | (with_reducible rfl)
    all_goals try (exfalso; omega)
    simp only [hc0, hc1, hc2]
    refine go_count l.length (fun k => ⟨[(10, .int .i64 k), (9, .bool (seenT l a k)), (8, .op 3 0 0), (7, .op 2 0 0), (6, .op 1 0 0), (5, .int .i64 i), (3, .os 0 0 H.length), (0, .sl (l.map encPt))], [(0, ⟨2, true, H.map encPt⟩), (1, ⟨2, true, [encPt a]⟩), (2, ⟨2, true, [encPt b]⟩), (3, ⟨2, true, [encPt c]⟩)], 32, 125⟩) (fun i => True)
      (entails_eq (nx := 32) (k := 0) (ns := []) (ks := [10, 9, 8, 7, 6, 5, 3, 0]) [(0, 0), (800, 1), (832, 2), (864, 3)] rfl (by simp) (by kernel_rfl)) trivial ?_
    intro k hk _
    by_cases hlk : k < l.length
    · have hst := seenT_step (a := a) hlk
      have x1 := c_Orient a b l[k]
      have hop := hok _ (List.getElem_mem hlk)
      have x2 := q1 _ (List.getElem_mem hlk)
      rw [crossX_in (hok _ k0) (hok _ k1) hop] at x1
      have x3 := sign_nlt x2
      unfold ptEq at hst
      generalize signE (crossE a b l[k]) = sg at *
      generalize seenT l a k = bb at *
      cases bb <;> {
        repeat' first
           | (with_reducible apply go_op)
           | (with_reducible apply go_next)
           | ((with_reducible (show evOp _ _ _ _ _ _)); first
             | ((with_reducible (show evOp _ (.move _) _ _ _ _)) ; first | ((with_reducible apply go_mv_int); rfl; rfl) | ((with_reducible apply go_mv_bool); rfl; rfl) | ((with_reducible apply go_mv_sl); rfl; rfl))
             | ((with_reducible apply go_as))
             | ((with_reducible (show evOp _ (.load _ _) _ _ _ _)) ; first | ((with_reducible apply go_ld_ptr); rfl; rfl; rfl) | ((with_reducible apply go_ld_agg); rfl; rfl; rfl; rfl))
             | (((with_reducible apply go_index_nat); rfl; rfl; (with_reducible rfl); (intro; rfl); rfl; omega; (intro hlt)))
             | ((with_reducible (show evOp _ (.binOp _ _ _ _ _) _ _ _ _)) ; first | ((with_reducible apply go_cmp); rfl; rfl; rfl; rfl) | ((with_reducible apply go_add); rfl; rfl; rfl; omega) | ((with_reducible apply go_eql_agg); rfl; rfl; rfl; rfl))
             | ((with_reducible (show evOp _ (.call _) _ _ _ _)) ; first | ((with_reducible apply go_len); rfl; rfl) | ((with_reducible apply go_fn_int); rfl; (exact x1); rfl))
             | (((with_reducible apply go_not); rfl; rfl))
             | (((with_reducible apply go_pick); rfl; rfl; rfl)))
           | ((with_reducible (show evOps _ _ _ _ _ _)); first
             | (with_reducible apply go_nil)
             | ((with_reducible apply go_run); rfl; rfl)
             | ((with_reducible apply go_pass); rfl; rfl; rfl)
             | ((with_reducible apply go_pre); rfl)
             | (with_reducible apply go_pre_nil)
             | ((with_reducible apply go_suf); rfl)
             | (with_reducible apply go_suf_nil)
             | (with_reducible apply go_take)
             | (with_reducible apply go_take0)
             | (with_reducible apply go_drop)
             | (with_reducible apply go_drop0))
           | ((with_reducible (show evG _ _ _ _ _)); first
             | (with_reducible apply go_seq)
             | (with_reducible apply go_region)
             | ((with_reducible apply go_cond_t); rfl; rfl)
             | (((with_reducible apply go_cond); rfl) <;> (intro h; simp only [h]; try simp only [decide_eq_true_eq, decide_eq_false_iff_not, Bool.not_eq_true', Bool.not_eq_false', Bool.not_true, Bool.not_false] at h; try exact absurd trivial h))
             | ((with_reducible apply (go_drawM 9)); decide +kernel; rfl)
             | ((with_reducible apply go_order); kernel_rfl; rfl)
             | (with_reducible apply go_ret)
             | (with_reducible apply go_skipc)
             | (with_reducible apply go_block)
             | (with_reducible apply go_exit))
           | (with_reducible apply go_kseq)
           | (with_reducible apply go_ksuf)
           | (with_reducible apply go_kseq_ret)
           | (with_reducible apply go_kblock)
           | (with_reducible apply go_kblock_ret)
           | (with_reducible apply go_kblock_exit)
           | (with_reducible apply go_kdrop)
           | (with_reducible apply go_kseq_exit)
           | ((with_reducible apply end_bool); rfl)
        all_goals try (exfalso; omega)
        all_goals exact ⟨hlk, trivial, by rw [hst]; exact entails_eq (nx := 32) (k := 0) (ns := []) (ks := [10, 9, 8, 7, 6, 5, 3, 0]) [(0, 0), (1, 1), (2, 2), (3, 3)] rfl (by simp) (by kernel_rfl)⟩ }
    · have hx := seenT_all k0
      have e : k = l.length := by omega
      rw [e, hx]
      have x1 := c_Orient a b c
      rw [crossX_in (hok _ k0) (hok _ k1) (hok _ k2)] at x1
      have x3 := sign_gt q2
      generalize signE (crossE a b c) = sg at *
      repeat' first
           | (with_reducible apply go_op)
           | (with_reducible apply go_next)
           | ((with_reducible (show evOp _ _ _ _ _ _)); first
             | ((with_reducible (show evOp _ (.move _) _ _ _ _)) ; first | ((with_reducible apply go_mv_int); rfl; rfl) | ((with_reducible apply go_mv_bool); rfl; rfl) | ((with_reducible apply go_mv_sl); rfl; rfl))
             | ((with_reducible apply go_as))
             | ((with_reducible (show evOp _ (.load _ _) _ _ _ _)) ; first | ((with_reducible apply go_ld_ptr); rfl; rfl; rfl) | ((with_reducible apply go_ld_agg); rfl; rfl; rfl; rfl))
             | (((with_reducible apply go_index_nat); rfl; rfl; (with_reducible rfl); (intro; rfl); rfl; omega; (intro hlt)))
             | ((with_reducible (show evOp _ (.binOp _ _ _ _ _) _ _ _ _)) ; first | ((with_reducible apply go_cmp); rfl; rfl; rfl; rfl) | ((with_reducible apply go_add); rfl; rfl; rfl; omega))
             | ((with_reducible (show evOp _ (.call _) _ _ _ _)) ; first | ((with_reducible apply go_len); rfl; rfl) | ((with_reducible apply go_fn_int); rfl; (exact x1); rfl))
             | (((with_reducible apply go_not); rfl; rfl))
             | (((with_reducible apply go_pick); rfl; rfl; rfl)))
           | ((with_reducible (show evOps _ _ _ _ _ _)); first
             | (with_reducible apply go_nil)
             | ((with_reducible apply go_run); rfl; rfl)
             | ((with_reducible apply go_pass); rfl; rfl; rfl)
             | ((with_reducible apply go_pre); rfl)
             | (with_reducible apply go_take)
             | (with_reducible apply go_take0)
             | (with_reducible apply go_drop)
             | (with_reducible apply go_drop0))
           | ((with_reducible (show evG _ _ _ _ _)); first
             | (with_reducible apply go_seq)
             | (with_reducible apply go_region)
             | (((with_reducible apply go_cond); rfl) <;> (intro h; simp only [h]; try simp only [decide_eq_true_eq, decide_eq_false_iff_not, Bool.not_eq_true', Bool.not_eq_false', Bool.not_true, Bool.not_false] at h; try exact absurd trivial h))
             | ((with_reducible apply (go_drawM 9)); decide +kernel; rfl)
             | ((with_reducible apply go_order); kernel_rfl; rfl)
             | (with_reducible apply go_ret)
             | (with_reducible apply go_skipc)
             | (with_reducible apply go_block)
             | (with_reducible apply go_exit))
           | (with_reducible apply go_kseq)
           | (with_reducible apply go_kseq_ret)
           | (with_reducible apply go_kblock)
           | (with_reducible apply go_kblock_ret)
           | (with_reducible apply go_kblock_exit)
           | (with_reducible apply go_kdrop)
           | (with_reducible apply go_kseq_exit)
           | ((with_reducible apply end_bool); rfl)
      all_goals try (exfalso; omega)
      exact ⟨by omega, trivial, entails_eq (nx := 32) (k := 0) (ns := []) (ks := [5, 3, 0]) [(0, 0)] rfl (by simp) (by kernel_rfl)⟩
  have e : i = H.length := by omega
  subst e
  clear hlt hi
  by_cases h40 : H.length ≤ 40
  rotate_left
  · repeat' first
           | (with_reducible apply go_op)
           | (with_reducible apply go_next)
           | ((with_reducible (show evOp _ _ _ _ _ _)); first
             | ((with_reducible (show evOp _ (.move _) _ _ _ _)) ; first | ((with_reducible apply go_mv_int); rfl; rfl) | ((with_reducible apply go_mv_bool); rfl; rfl) | ((with_reducible apply go_mv_os); rfl; rfl))
             | ((with_reducible apply go_as))
             | (((with_reducible apply go_load_om); rfl; rfl; rfl; rfl; rotate_left; assumption))
             | ((with_reducible (show evOp _ (.indexAddr _ _ _) _ _ _ _)) ; first | ((with_reducible apply go_index_om); rfl; rfl; rfl; (with_reducible rfl); rfl; rfl; omega; (intro hlt)) | ((with_reducible apply go_index_own); rfl; rfl; rfl; rfl; rfl; omega))
             | ((with_reducible (show evOp _ (.binOp _ _ _ _ _) _ _ _ _)) ; first | ((with_reducible apply go_cmp); rfl; rfl; rfl; rfl) | ((with_reducible apply go_add); rfl; rfl; rfl; omega) | ((with_reducible apply go_rem_pos); rfl; rfl; rfl; omega))
             | (((with_reducible apply go_len_own); rfl; rfl; rfl)))
           | ((with_reducible (show evOps _ _ _ _ _ _)); first
             | (with_reducible apply go_nil)
             | (with_reducible apply go_take))
           | ((with_reducible (show evG _ _ _ _ _)); first
             | (with_reducible apply go_seq)
             | (with_reducible apply go_region)
             | (((with_reducible apply go_cond); rfl) <;> (intro h; simp only [h]; try simp only [decide_eq_true_eq, decide_eq_false_iff_not, Bool.not_eq_true', Bool.not_eq_false', Bool.not_true, Bool.not_false] at h; try exact absurd trivial h))
             | ((with_reducible apply (go_drawL 23 [[4, 5, 6, 7, 8, 9, 10, 11, 12, 13, 14, 15, 16, 17, 18, 19], [12, 13, 14, 15, 16, 17, 18, 19], []])); decide +kernel; rfl)
             | (with_reducible apply go_ret)
             | (with_reducible apply go_skipc)
             | (with_reducible apply go_block)
             | (with_reducible apply go_exit))
           | (with_reducible apply go_kseq)
           | (with_reducible apply go_kseq_ret)
           | (with_reducible apply go_kblock_exit)
           | (with_reducible apply go_kseq_exit)
           | ((with_reducible apply end_bool); rfl)
           | (with_reducible rfl)
    all_goals first
      | (exfalso; omega)
      | (simp; done)
      | trace_state
  have hp := poly_hull hH h3 h40 hok
  have x1 := c_CheckPolygon H
  rw [hp] at x1
  repeat' first
           | (with_reducible apply go_op)
           | (with_reducible apply go_next)
           | ((with_reducible (show evOp _ _ _ _ _ _)); first
             | ((with_reducible (show evOp _ (.move _) _ _ _ _)) ; first | ((with_reducible apply go_mv_int); rfl; rfl) | ((with_reducible apply go_mv_bool); rfl; rfl) | ((with_reducible apply go_mv_os); rfl; rfl))
             | ((with_reducible apply go_as))
             | (((with_reducible apply go_load_om); rfl; rfl; rfl; rfl; rotate_left; assumption))
             | ((with_reducible (show evOp _ (.indexAddr _ _ _) _ _ _ _)) ; first | ((with_reducible apply go_index_om); rfl; rfl; rfl; (with_reducible rfl); rfl; rfl; omega; (intro hlt)) | ((with_reducible apply go_index_own); rfl; rfl; rfl; rfl; rfl; omega))
             | ((with_reducible (show evOp _ (.binOp _ _ _ _ _) _ _ _ _)) ; first | ((with_reducible apply go_cmp); rfl; rfl; rfl; rfl) | ((with_reducible apply go_add); rfl; rfl; rfl; omega) | ((with_reducible apply go_rem_pos); rfl; rfl; rfl; omega))
             | (((with_reducible apply go_len_own); rfl; rfl; rfl)))
           | ((with_reducible (show evOps _ _ _ _ _ _)); first
             | (with_reducible apply go_nil)
             | (with_reducible apply go_take))
           | ((with_reducible (show evG _ _ _ _ _)); first
             | (with_reducible apply go_seq)
             | (with_reducible apply go_region)
             | (((with_reducible apply go_cond); rfl) <;> (intro h; simp only [h]; try simp only [decide_eq_true_eq, decide_eq_false_iff_not, Bool.not_eq_true', Bool.not_eq_false', Bool.not_true, Bool.not_false] at h; try exact absurd trivial h))
             | ((with_reducible apply (go_drawL 23 [[4, 5, 6, 7, 8, 9, 10, 11, 12, 13, 14, 15, 16, 17, 18, 19], [12, 13, 14, 15, 16, 17, 18, 19], []])); decide +kernel; rfl)
             | (with_reducible apply go_ret)
             | (with_reducible apply go_skipc)
             | (with_reducible apply go_block)
             | (with_reducible apply go_exit))
           | (with_reducible apply go_kseq)
           | (with_reducible apply go_kseq_ret)
           | (with_reducible apply go_kblock_exit)
           | (with_reducible apply go_kseq_exit)
           | ((with_reducible apply end_bool); rfl)
           | (with_reducible rfl)
  all_goals try (exfalso; omega)
  refine go_count l.length (fun k => ⟨[(11, .int .i64 k), (3, .os 0 0 H.length), (0, .sl (l.map encPt))], [(0, ⟨2, true, H.map encPt⟩)], 32, 125⟩) (fun i => True)
    (entails_eq (nx := 32) (k := 0) (ns := []) (ks := [11, 3, 0]) [(0, 0)] rfl (by simp) (by kernel_rfl)) trivial ?_
  intro k hk _
  by_cases hlk : k < l.length
  · have y1 := c_Inside H l[k]
    have y2 : insX H l[k] = (insE H l[k], 0) := by
      unfold insX
      rw [if_neg (by omega), if_neg (by rw [hok _ (List.getElem_mem hlk)]; simp)]
    rw [y2] at y1
    have y3 := hH.inside h3 (List.getElem_mem hlk)
    generalize insE H l[k] = n at *
    repeat' first
           | (with_reducible apply go_op)
           | (with_reducible apply go_next)
           | ((with_reducible (show evOp _ _ _ _ _ _)); first
             | ((with_reducible (show evOp _ (.move _) _ _ _ _)) ; first | ((with_reducible apply go_mv_int); rfl; rfl) | ((with_reducible apply go_mv_bool); rfl; rfl) | ((with_reducible apply go_mv_sl); rfl; rfl) | ((with_reducible apply go_mv_os); rfl; rfl) | ((with_reducible apply go_mv_tup); rfl; rfl))
             | ((with_reducible apply go_as))
             | (((with_reducible apply go_ld_ptr); rfl; rfl; rfl))
             | (((with_reducible apply go_index_nat); rfl; rfl; (with_reducible rfl); (intro; rfl); rfl; omega; (intro hlt)))
             | ((with_reducible (show evOp _ (.binOp _ _ _ _ _) _ _ _ _)) ; first | ((with_reducible apply go_cmp); rfl; rfl; rfl; rfl) | ((with_reducible apply go_add); rfl; rfl; rfl; omega))
             | ((with_reducible (show evOp _ (.call _) _ _ _ _)) ; first | ((with_reducible apply go_len); rfl; rfl) | ((with_reducible apply go_fn_plain); (exact purL_os rfl (by simp) rfl); (exact y1); rfl; (exact Nat.le_of_ble_eq_true rfl); rfl))
             | (((with_reducible apply go_extract); rfl; rfl))
             | (((with_reducible apply go_pick); rfl; rfl; rfl)))
           | ((with_reducible (show evOps _ _ _ _ _ _)); first
             | (with_reducible apply go_nil)
             | ((with_reducible apply go_run); rfl; rfl))
           | ((with_reducible (show evG _ _ _ _ _)); first
             | (with_reducible apply go_seq)
             | (with_reducible apply go_region)
             | (((with_reducible apply go_cond); rfl) <;> (intro h; simp only [h]; try simp only [decide_eq_true_eq, decide_eq_false_iff_not, Bool.not_eq_true', Bool.not_eq_false', Bool.not_true, Bool.not_false] at h; try exact absurd trivial h))
             | (with_reducible apply go_ret)
             | (with_reducible apply go_skipc)
             | (with_reducible apply go_block)
             | (with_reducible apply go_exit))
           | (with_reducible apply go_kseq)
           | (with_reducible apply go_kseq_ret)
           | (with_reducible apply go_kblock)
           | (with_reducible apply go_kblock_ret)
           | (with_reducible apply go_kblock_exit)
           | (with_reducible apply go_kseq_exit)
           | ((with_reducible apply end_bool); rfl)
    all_goals try (exfalso; omega)
    exact ⟨by omega, trivial, entails_eq (nx := 32) (k := 0) (ns := []) (ks := [11, 3, 0]) [(0, 0)] rfl (by simp) (by kernel_rfl)⟩
  · repeat' first
           | (with_reducible apply go_op)
           | (with_reducible apply go_next)
           | ((with_reducible (show evOp _ _ _ _ _ _)); first
             | ((with_reducible (show evOp _ (.move _) _ _ _ _)) ; first | ((with_reducible apply go_mv_int); rfl; rfl) | ((with_reducible apply go_mv_bool); rfl; rfl) | ((with_reducible apply go_mv_sl); rfl; rfl) | ((with_reducible apply go_mv_os); rfl; rfl))
             | ((with_reducible apply go_as))
             | (((with_reducible apply go_ld_ptr); rfl; rfl; rfl))
             | (((with_reducible apply go_index_nat); rfl; rfl; (with_reducible rfl); (intro; rfl); rfl; omega; (intro hlt)))
             | (((with_reducible apply go_cmp); rfl; rfl; rfl; rfl))
             | ((with_reducible (show evOp _ (.call _) _ _ _ _)) ; first | ((with_reducible apply go_len); rfl; rfl) | ((with_reducible apply go_fn_int); (exact purL_os rfl (by simp) rfl); (exact x1); rfl)))
           | ((with_reducible (show evOps _ _ _ _ _ _)); first
             | (with_reducible apply go_nil))
           | ((with_reducible (show evG _ _ _ _ _)); first
             | (with_reducible apply go_seq)
             | (with_reducible apply go_region)
             | (((with_reducible apply go_cond); rfl) <;> (intro h; simp only [h]; try simp only [decide_eq_true_eq, decide_eq_false_iff_not, Bool.not_eq_true', Bool.not_eq_false', Bool.not_true, Bool.not_false] at h; try exact absurd trivial h))
             | (with_reducible apply go_ret)
             | (with_reducible apply go_skipc)
             | (with_reducible apply go_block)
             | (with_reducible apply go_exit))
           | (with_reducible apply go_kseq)
           | (with_reducible apply go_kblock_exit)
           | (with_reducible apply go_kseq_exit)
           | ((with_reducible apply end_bool); rfl)
    all_goals first
      | (exfalso; omega)
      | (simp; done)
      | trace_state
end Go.Pv.Geo

open Go Go.Proofs Go.Pv
set_option maxHeartbeats 1000000
set_option maxRecDepth 100000
set_option linter.unusedVariables false
namespace Go.Pv.Geo
theorem own : ownKnob Try.prog.godebug = none := by kernel_rfl
theorem laidOut : laidOutB Try.prog = true := by kernel_rfl
theorem rInt : Reads Try.prog 3 I64 (fun n => [.int .i64 n]) := reads_i64 Try.underlying3 (by kernel_rfl)
theorem rPt : Reads Try.prog 23 (fun p : Pt => I64 p.x ∧ I64 p.y) encPt :=
  (reads_struct Try.underlying23 (by kernel_rfl) (readsF_cons (k := 1) rInt (by kernel_rfl) rfl (readsF_cons (k := 1) rInt (by kernel_rfl) rfl readsF_nil))).map
    (fun x => ⟨x.1, x.2.1⟩) (fun _ _ => rfl) (fun _ h => ⟨h.1, h.2.1⟩) fun _ _ => by kernel_rfl
theorem rPts : Reads Try.prog 31 (fun l : List Pt => l.length ≤ maxLen ∧ ∀ a ∈ l, I64 a.x ∧ I64 a.y) (fun l => [.sl (l.map encPt)]) := reads_slice Try.underlying31 rPt (k := 2) (by kernel_rfl) (by decide) (by kernel_rfl)
theorem rTri : Reads Try.prog 47 (fun t : Tri => I64 t.a ∧ I64 t.b ∧ I64 t.c) encTri :=
  (reads_struct Try.underlying47 (by kernel_rfl) (readsF_cons (k := 1) rInt (by kernel_rfl) rfl (readsF_cons (k := 1) rInt (by kernel_rfl) rfl (readsF_cons (k := 1) rInt (by kernel_rfl) rfl readsF_nil)))).map
    (fun x => ⟨x.1, x.2.1, x.2.2.1⟩) (fun _ _ => rfl) (fun _ h => ⟨h.1, h.2.1, h.2.2.1⟩) fun _ _ => by kernel_rfl
theorem rTris : Reads Try.prog 41 (fun l : List Tri => l.length ≤ maxLen ∧ ∀ t ∈ l, I64 t.a ∧ I64 t.b ∧ I64 t.c) (fun l => [.sl (l.map encTri)]) := reads_slice Try.underlying41 rTri (k := 3) (by kernel_rfl) (by decide) (by kernel_rfl)
theorem rP4 : Reads Try.prog 24 (fun x : Pt × Pt × Pt × Pt => (I64 x.1.x ∧ I64 x.1.y) ∧ (I64 x.2.1.x ∧ I64 x.2.1.y) ∧ (I64 x.2.2.1.x ∧ I64 x.2.2.1.y) ∧ I64 x.2.2.2.x ∧ I64 x.2.2.2.y) (fun x => encPt x.1 ++ encPt x.2.1 ++ encPt x.2.2.1 ++ encPt x.2.2.2) :=
  (reads_array (n := 4) (k := 2) Try.underlying24 rPt (by kernel_rfl) (by kernel_rfl)).map (fun l => (l.getD 0 ⟨0, 0⟩, l.getD 1 ⟨0, 0⟩, l.getD 2 ⟨0, 0⟩, l.getD 3 ⟨0, 0⟩))
    (fun l h => by match l, h.1 with | [a, b, c, d], _ => rfl) (fun l h => by match l, h with | [a, b, c, d], h => exact ⟨h.2 a (by simp), h.2 b (by simp), h.2 c (by simp), h.2 d (by simp)⟩) fun _ _ => by kernel_rfl
theorem aP4 : ReadsA Try.prog [24] (fun x : Pt × Pt × Pt × Pt => (I64 x.1.x ∧ I64 x.1.y) ∧ (I64 x.2.1.x ∧ I64 x.2.1.y) ∧ (I64 x.2.2.1.x ∧ I64 x.2.2.1.y) ∧ I64 x.2.2.2.x ∧ I64 x.2.2.2.y) (fun x => [.agg (encPt x.1 ++ encPt x.2.1 ++ encPt x.2.2.1 ++ encPt x.2.2.2)]) :=
  (readsA_cons Try.underlying24 rP4 (g := fun x => .agg (encPt x.1 ++ encPt x.2.1 ++ encPt x.2.2.1 ++ encPt x.2.2.2)) (.inr ⟨rfl, fun _ => rfl⟩) readsA_nil).map (fun x => x.1) (fun _ _ => rfl) (fun _ h => h.1)
theorem aLocates : ReadsA Try.prog [31, 41, 23] (fun x : List Pt × List Tri × Pt => True) (fun x => [.sl (x.1.map encPt), .sl (x.2.1.map encTri), .agg (encPt x.2.2)]) :=
  (readsA_cons Try.underlying31 rPts (g := fun l => .sl (l.map encPt)) (.inl ⟨rfl, fun _ => rfl⟩) (readsA_cons Try.underlying41 rTris (g := fun l => .sl (l.map encTri)) (.inl ⟨rfl, fun _ => rfl⟩)
    (readsA_cons Try.underlying23 rPt (g := fun p => .agg (encPt p)) (.inr ⟨rfl, fun _ => rfl⟩) readsA_nil))).map (fun x => (x.1, x.2.1, x.2.2.1)) (fun _ _ => rfl) (fun _ _ => trivial)
theorem aPoly : ReadsA Try.prog [31, 5] (fun x : List Pt × Int => 0 ≤ x.2 ∧ x.2 ≤ 255) (fun x => [.sl (x.1.map encPt), .int .u8 x.2]) :=
  (readsA_cons Try.underlying31 rPts (g := fun l => .sl (l.map encPt)) (.inl ⟨rfl, fun _ => rfl⟩) (readsA_cons Try.underlying5 (reads_int (k := .u8) Try.underlying5 (by kernel_rfl)) (g := fun n => .int .u8 n) (.inl ⟨rfl, fun _ => rfl⟩) readsA_nil)).map
    (fun x => (x.1, x.2.1)) (fun _ _ => rfl) (fun _ h => by have := h.2.1; simp [Lit.wf] at this; exact this)
end Go.Pv.Geo
namespace Go.Pv.Geo
theorem aTouches : ReadsA Try.prog [31, 23, 23] (fun x : List Pt × Pt × Pt => True) (fun x => [.sl (x.1.map encPt), .agg (encPt x.2.1), .agg (encPt x.2.2)]) :=
  (readsA_cons Try.underlying31 rPts (g := fun l => .sl (l.map encPt)) (.inl ⟨rfl, fun _ => rfl⟩) (readsA_cons Try.underlying23 rPt (g := fun p => .agg (encPt p)) (.inr ⟨rfl, fun _ => rfl⟩)
    (readsA_cons Try.underlying23 rPt (g := fun p => .agg (encPt p)) (.inr ⟨rfl, fun _ => rfl⟩) readsA_nil))).map (fun x => (x.1, x.2.1, x.2.2.1)) (fun _ _ => rfl) (fun _ _ => trivial)
end Go.Pv.Geo
namespace Go.Pv.Geo
theorem aP3 : ReadsA Try.prog [23, 23, 23] (fun x : Pt × Pt × Pt => True) (fun x => [.agg (encPt x.1), .agg (encPt x.2.1), .agg (encPt x.2.2)]) :=
  (readsA_cons Try.underlying23 rPt (g := fun p => .agg (encPt p)) (.inr ⟨rfl, fun _ => rfl⟩) (readsA_cons Try.underlying23 rPt (g := fun p => .agg (encPt p)) (.inr ⟨rfl, fun _ => rfl⟩)
    (readsA_cons Try.underlying23 rPt (g := fun p => .agg (encPt p)) (.inr ⟨rfl, fun _ => rfl⟩) readsA_nil))).map (fun x => (x.1, x.2.1, x.2.2.1)) (fun _ _ => rfl) (fun _ _ => trivial)
theorem aNear : ReadsA Try.prog [31, 23, 3] (fun x : List Pt × Pt × Int => True) (fun x => [.sl (x.1.map encPt), .agg (encPt x.2.1), .int .i64 x.2.2]) :=
  (readsA_cons Try.underlying31 rPts (g := fun l => .sl (l.map encPt)) (.inl ⟨rfl, fun _ => rfl⟩) (readsA_cons Try.underlying23 rPt (g := fun p => .agg (encPt p)) (.inr ⟨rfl, fun _ => rfl⟩)
    (readsA_cons Try.underlying3 rInt (g := fun n => .int .i64 n) (.inl ⟨rfl, fun _ => rfl⟩) readsA_nil))).map (fun x => (x.1, x.2.1, x.2.2.1)) (fun _ _ => rfl) (fun _ _ => trivial)
end Go.Pv.Geo

open Go Go.Proofs Go.Pv
set_option maxHeartbeats 1000000
set_option maxRecDepth 100000
set_option linter.unusedVariables false
namespace Go.Pv.Geo
theorem aPts : ReadsA Try.prog [31] (fun x : List Pt => x.length ≤ maxLen) (fun x => [.sl (x.map encPt)]) :=
  (readsA_cons Try.underlying31 rPts (g := fun l => .sl (l.map encPt)) (.inl ⟨rfl, fun _ => rfl⟩) readsA_nil).map (fun x => x.1) (fun _ _ => rfl) (fun _ h => h.1.1)
end Go.Pv.Geo

import Derived.Test.YtgmlfdjplilpoaaGreatProg
import Derived.Test.YtgmlfdjplilpoaaGreatMAF
import Derived.KernelRfl
import Derived.Test.YtgmlfdjplilpoaaGreatMAD
import Derived.Test.YtgmlfdjplilpoaaGreatMAE
/- Part of the proofs over YtgmlfdjplilpoaaGreat: K41, S39, K42, K43, K44, X1, S55, S56, K45, K46, K47, K48, K49, K50, K51. -/
set_option linter.unusedVariables false
set_option linter.unusedSimpArgs false
set_option linter.unnecessarySimpa false
open Go Go.Proofs Go.Pv
set_option maxHeartbeats 4000000
set_option maxRecDepth 100000
set_option linter.unusedVariables false
set_option linter.unusedSimpArgs false
namespace Go.Pv.Soil
theorem legsL_ok {c : Chan} (hc : OkChan c) {p : Geo.Pt} (hp : Geo.ptOK p = true) {m : Int} (hm : -20000 ≤ m) (hm' : ∀ a ∈ c.axis, m ≤ a.level) : ∀ n, n + 1 ≤ c.axis.length → ∀ x ∈ legsL c p n, xpartOK x ∧ m ≤ x.bottom
  | 0, _, x, h => by simp [legsL] at h
  | n + 1, hn, x, h => by
    simp only [legsL] at h
    split at h
    · rename_i hB
      rw [List.mem_append, List.mem_singleton] at h
      rcases h with h | rfl
      · exact legsL_ok hc hp hm hm' n (by omega) x h
      · rw [axA_get (c := c) (i := n) (by omega), axA_get (c := c) (i := n + 1) (by omega)] at *
        have h1 := leg_ok hc.ov.1 (hc.axp _ (List.getElem_mem _)) (hc.axp _ (List.getElem_mem _)) hp (hc.next n (by omega)) hB
        exact ⟨h1.1, h1.2 m hm (hm' _ (List.getElem_mem _)) (hm' _ (List.getElem_mem _))⟩
    · exact legsL_ok hc hp hm hm' n (by omega) x h
theorem bendsL_ok {c : Chan} (hc : OkChan c) {p : Geo.Pt} (hp : Geo.ptOK p = true) {m : Int} (hm : -20000 ≤ m) (hm' : ∀ a ∈ c.axis, m ≤ a.level) : ∀ n, n + 2 ≤ c.axis.length → ∀ x ∈ bendsL c p n, xpartOK x ∧ m ≤ x.bottom
  | 0, hn, x, h => legsL_ok hc hp hm hm' _ (by omega) x h
  | n + 1, hn, x, h => by
    simp only [bendsL] at h
    split at h
    · rename_i hB
      rw [List.mem_append, List.mem_singleton] at h
      rcases h with h | rfl
      · exact bendsL_ok hc hp hm hm' n (by omega) x h
      · rw [axA_get (c := c) (i := n) (by omega), axA_get (c := c) (i := n + 1) (by omega), axA_get (c := c) (i := n + 2) (by omega)] at *
        have h1 := bend_ok hc.ov.1 (hc.axp _ (List.getElem_mem _)) hB
        exact ⟨h1.1, by rw [h1.2]; exact hm' _ (List.getElem_mem _)⟩
    · exact bendsL_ok hc hp hm hm' n (by omega) x h
theorem parts_ok {c : Chan} (hc : OkChan c) {p : Geo.Pt} (hp : Geo.ptOK p = true) {m : Int} (hm : -20000 ≤ m) (hm' : ∀ a ∈ c.axis, m ≤ a.level) : ∀ x ∈ partsL c p, xpartOK x ∧ m ≤ x.bottom := fun x h =>
  bendsL_ok hc hp hm hm' _ (by have := hc.len; omega) x h
theorem level_bd {x : XPart} (hx : xpartOK x) {m : Int} (hm : m ≤ x.bottom) (h : levelB x = true) : m ≤ levelV x ∧ levelV x ≤ 20000 := by
  obtain ⟨h1, h2, h3, h4⟩ := hx
  unfold levelV levelB at *
  split at h
  · rename_i hc
    rw [if_pos hc]
    omega
  · rename_i hc
    rw [if_neg hc]
    split at h
    · cases h
    · rename_i hr
      rw [if_neg hr]
      have := of_decide_eq_true h
      have := Int.ediv_nonneg (a := x.offset - x.half) (b := x.run) (by omega) (by omega)
      omega
def xpA (l : List XPart) (n : Nat) : XPart := l.getD n ⟨0, 0, 0, 0⟩
theorem xpA_get {l : List XPart} {n : Nat} (h : n < l.length) : xpA l n = l[n] := by simp [xpA, List.getD, h]
/-- The least level of the first parts. -/
def desN (l : List XPart) : Nat → Int × Bool
  | 0 => (0, false)
  | n + 1 => if levelB (xpA l n) = true ∧ ((desN l n).2 = false ∨ levelV (xpA l n) < (desN l n).1) then (levelV (xpA l n), true) else desN l n
theorem desN_bd {l : List XPart} {m : Int} (h : ∀ x ∈ l, xpartOK x ∧ m ≤ x.bottom) : ∀ n, n ≤ l.length → (desN l n).2 = true → m ≤ (desN l n).1 ∧ (desN l n).1 ≤ 20000
  | 0, _, h0 => by cases h0
  | n + 1, hn, h0 => by
    simp only [desN] at h0 ⊢
    split at h0
    · rename_i hc
      rw [if_pos hc]
      rw [xpA_get (by omega)] at hc ⊢
      have := h (l[n]'(by omega)) (List.getElem_mem _)
      exact level_bd this.1 this.2 hc.1
    · rename_i hc
      rw [if_neg hc]
      exact desN_bd h n (by omega) h0
noncomputable def desV (c : Chan) (p : Geo.Pt) : Int := (desN (partsL c p) (partsL c p).length).1
noncomputable def desB (c : Chan) (p : Geo.Pt) : Bool := (desN (partsL c p) (partsL c p).length).2
theorem des_bd {c : Chan} (hc : OkChan c) {p : Geo.Pt} (hp : Geo.ptOK p = true) {m : Int} (hm : -20000 ≤ m) (hm' : ∀ a ∈ c.axis, m ≤ a.level) (h : desB c p = true) : m ≤ desV c p ∧ desV c p ≤ 20000 :=
  desN_bd (parts_ok hc hp hm hm') _ (Nat.le_refl _) h
theorem axis_low {c : Chan} (hc : OkChan c) : ∀ a ∈ c.axis, c.over - 20000 ≤ a.level := fun a h => by
  have := of_decide_eq_true (hc.axp a h)
  omega
theorem h_design (c : Chan) (hc : OkChan c) (p : Geo.Pt) (hp : Geo.ptOK p = true) :
    Contract Tryz.prog 41 [.agg (encChan c), .agg (Geo.encPt p)] (.ret (.tup [.int .i64 (desV c p), .bool (desB c p)])) := by
  have hov := hc.ov
  have hok := parts_ok hc hp (m := c.over - 20000) (by omega) (axis_low hc)
  have y1 := h_parts c hc p hp
  have hln : (partsL c p).length ≤ 60 := by
    have := bendsL_len c p (c.axis.length - 2)
    have := hc.len
    show (bendsL c p (c.axis.length - 2)).length ≤ 60
    omega
  unfold desV desB
  generalize partsL c p = l at *
  refine contract_of mix Tryz.func41 rfl rfl (by rw [Tryz.ntmps41]; exact Nat.le_of_ble_eq_true rfl) ?_; rw [Tryz.results41, Tryz.ntmps41]; simp only [argsE, Nat.reduceAdd]
  repeat' first
           | (with_reducible apply go_op)
           | (with_reducible apply go_next)
           | ((with_reducible (show evOp _ _ _ _ _ _)); first
             | ((with_reducible (show evOp _ (.move _) _ _ _ _)) ; first | ((with_reducible apply go_mv_int); rfl; rfl) | ((with_reducible apply go_mv_bool); rfl; rfl))
             | ((with_reducible apply go_as))
             | (((with_reducible apply go_ld_agg); rfl; rfl; rfl; rfl))
             | ((with_reducible (show evOp _ (.call _) _ _ _ _)) ; first | ((with_reducible apply go_len_own); rfl; rfl; rfl) | ((with_reducible apply go_fn_fr); rfl; (exact y1); (exact scalXP); rfl))
             | (((with_reducible apply go_bx_agg); rfl; rfl; (exact Nat.le_of_ble_eq_true rfl); rfl; rfl)))
           | ((with_reducible (show evOps _ _ _ _ _ _)); first
             | (with_reducible apply go_nil))
           | ((with_reducible (show evG _ _ _ _ _)); first
             | (with_reducible apply go_seq)
             | (with_reducible apply go_region)
             | (with_reducible apply go_block))
           | (with_reducible apply go_kseq)
  refine go_count l.length (fun i => ⟨[(16, .int .i64 i), (15, .int .i64 l.length), (14, .os 0 0 l.length), (6, .int .i64 (desN l i).1), (7, .bool (desN l i).2)], [(0, ⟨4, true, l.map encXP⟩)], 32, 39⟩) (fun j => True) (entails_eq (nx := 32) (k := 0) (ns := []) (ks := [16, 15, 14, 6, 7]) [(256, 0)] rfl (by simp) (by kernel_rfl)) trivial ?_
  intro i hi _
  by_cases hlt : i < l.length
  · have hx := hok l[i] (List.getElem_mem _)
    have y2 := h_level l[i] hx.1
    have e1 : desN l (i + 1) = if levelB (xpA l i) = true ∧ ((desN l i).2 = false ∨ levelV (xpA l i) < (desN l i).1) then (levelV (xpA l i), true) else desN l i := rfl
    rw [xpA_get hlt] at e1
    generalize desN l i = d at *
    obtain ⟨dv, db⟩ := d
    generalize desN l (i + 1) = d' at *
    generalize levelV l[i] = v at *
    generalize levelB l[i] = b at *
    by_cases hq : b = true ∧ (db = false ∨ v < dv)
    · rw [if_pos hq] at e1
      subst e1
      obtain ⟨rfl, hq⟩ := hq
      cases db
      all_goals
        repeat' first
           | (with_reducible apply go_op)
           | (with_reducible apply go_next)
           | ((with_reducible (show evOp _ _ _ _ _ _)); first
             | ((with_reducible (show evOp _ (.move _) _ _ _ _)) ; first | ((with_reducible apply go_mv_int); rfl; rfl) | ((with_reducible apply go_mv_bool); rfl; rfl) | ((with_reducible apply go_mv_tup); rfl; rfl))
             | ((with_reducible apply go_as))
             | ((with_reducible (show evOp _ (.load _ _) _ _ _ _)) ; first | ((with_reducible apply go_load_om); rfl; rfl; rfl; rfl; rotate_left; assumption) | ((with_reducible apply go_ld_agg); rfl; rfl; rfl; rfl))
             | (((with_reducible apply go_index_om); rfl; rfl; rfl; (with_reducible rfl); rfl; rfl; omega; (intro hlt)))
             | ((with_reducible (show evOp _ (.binOp _ _ _ _ _) _ _ _ _)) ; first | ((with_reducible apply go_cmp); rfl; rfl; rfl; rfl) | ((with_reducible apply go_add); rfl; rfl; rfl; omega))
             | (((with_reducible apply go_fn_plain); rfl; (exact y2); rfl; (exact Nat.le_of_ble_eq_true rfl); rfl))
             | (((with_reducible apply go_st_agg); rfl; rfl; rfl; rfl; rfl; rfl; rfl))
             | (((with_reducible apply go_not); rfl; rfl))
             | (((with_reducible apply go_extract); rfl; rfl))
             | (((with_reducible apply go_pick); rfl; rfl; rfl))
             | (((with_reducible apply go_alloc); rfl; rfl; rfl)))
           | ((with_reducible (show evOps _ _ _ _ _ _)); first
             | (with_reducible apply go_nil)
             | ((with_reducible apply go_run); rfl; rfl)
             | ((with_reducible apply go_pass); rfl; rfl; rfl))
           | ((with_reducible (show evG _ _ _ _ _)); first
             | (with_reducible apply go_seq)
             | (with_reducible apply go_region)
             | ((with_reducible apply go_cond_t); rfl; rfl)
             | (((with_reducible apply go_cond); rfl) <;> (intro h; simp only [h]; try simp only [decide_eq_true_eq, decide_eq_false_iff_not, Bool.not_eq_true', Bool.not_eq_false', Bool.not_true, Bool.not_false] at h; try exact absurd trivial h))
             | (with_reducible apply go_ret)
             | (with_reducible apply go_skipc)
             | (with_reducible apply go_block)
             | (with_reducible apply go_exit))
           | (with_reducible apply go_kseq)
           | (with_reducible apply go_kblock)
           | (with_reducible apply go_kblock_exit)
           | (with_reducible apply go_kseq_exit)
           | ((with_reducible apply end_t2); rfl; rfl; rfl; rfl)
      all_goals try (exfalso; first | omega | (rcases hq with hq | hq; exact Bool.noConfusion hq; omega))
      all_goals
        refine ⟨by omega, trivial, ?_⟩
        exact entails_eq (nx := 32) (k := 0) (ns := []) (ks := [16, 15, 14, 6, 7]) [(0, 0)] rfl (by simp) (by kernel_rfl)
    · rw [if_neg hq] at e1
      subst e1
      cases b <;> cases db
      all_goals
        repeat' first
           | (with_reducible apply go_op)
           | (with_reducible apply go_next)
           | ((with_reducible (show evOp _ _ _ _ _ _)); first
             | ((with_reducible (show evOp _ (.move _) _ _ _ _)) ; first | ((with_reducible apply go_mv_int); rfl; rfl) | ((with_reducible apply go_mv_bool); rfl; rfl) | ((with_reducible apply go_mv_tup); rfl; rfl))
             | ((with_reducible apply go_as))
             | ((with_reducible (show evOp _ (.load _ _) _ _ _ _)) ; first | ((with_reducible apply go_load_om); rfl; rfl; rfl; rfl; rotate_left; assumption) | ((with_reducible apply go_ld_agg); rfl; rfl; rfl; rfl))
             | (((with_reducible apply go_index_om); rfl; rfl; rfl; (with_reducible rfl); rfl; rfl; omega; (intro hlt)))
             | ((with_reducible (show evOp _ (.binOp _ _ _ _ _) _ _ _ _)) ; first | ((with_reducible apply go_cmp); rfl; rfl; rfl; rfl) | ((with_reducible apply go_add); rfl; rfl; rfl; omega))
             | (((with_reducible apply go_fn_plain); rfl; (exact y2); rfl; (exact Nat.le_of_ble_eq_true rfl); rfl))
             | (((with_reducible apply go_st_agg); rfl; rfl; rfl; rfl; rfl; rfl; rfl))
             | (((with_reducible apply go_not); rfl; rfl))
             | (((with_reducible apply go_extract); rfl; rfl))
             | (((with_reducible apply go_pick); rfl; rfl; rfl))
             | (((with_reducible apply go_alloc); rfl; rfl; rfl)))
           | ((with_reducible (show evOps _ _ _ _ _ _)); first
             | (with_reducible apply go_nil)
             | ((with_reducible apply go_run); rfl; rfl)
             | ((with_reducible apply go_pass); rfl; rfl; rfl)
             | ((with_reducible apply go_skip); rfl; rfl))
           | ((with_reducible (show evG _ _ _ _ _)); first
             | (with_reducible apply go_seq)
             | (with_reducible apply go_region)
             | ((with_reducible apply go_cond_t); rfl; rfl)
             | ((with_reducible apply go_cond_f); rfl; rfl)
             | (((with_reducible apply go_cond); rfl) <;> (intro h; simp only [h]; try simp only [decide_eq_true_eq, decide_eq_false_iff_not, Bool.not_eq_true', Bool.not_eq_false', Bool.not_true, Bool.not_false] at h; try exact absurd trivial h))
             | (with_reducible apply go_ret)
             | (with_reducible apply go_skipc)
             | (with_reducible apply go_block)
             | (with_reducible apply go_exit))
           | (with_reducible apply go_kseq)
           | (with_reducible apply go_kblock)
           | (with_reducible apply go_kblock_exit)
           | (with_reducible apply go_kseq_exit)
           | ((with_reducible apply end_t2); rfl; rfl; rfl; rfl)
      all_goals try (exfalso; first | omega | exact hq ⟨rfl, .inl rfl⟩ | exact hq ⟨rfl, .inr (by assumption)⟩)
      all_goals
        refine ⟨by omega, trivial, ?_⟩
        exact entails_eq (nx := 32) (k := 0) (ns := []) (ks := [16, 15, 14, 6, 7]) [(0, 0)] rfl (by simp) (by kernel_rfl)
  · have e : i = l.length := by omega
    subst e
    repeat' first
           | (with_reducible apply go_op)
           | (with_reducible apply go_next)
           | ((with_reducible (show evOp _ _ _ _ _ _)); first
             | ((with_reducible (show evOp _ (.move _) _ _ _ _)) ; first | ((with_reducible apply go_mv_int); rfl; rfl) | ((with_reducible apply go_mv_bool); rfl; rfl))
             | ((with_reducible apply go_as))
             | ((with_reducible (show evOp _ (.load _ _) _ _ _ _)) ; first | ((with_reducible apply go_load_om); rfl; rfl; rfl; rfl; rotate_left; assumption) | ((with_reducible apply go_ld_agg); rfl; rfl; rfl; rfl))
             | (((with_reducible apply go_index_om); rfl; rfl; rfl; (with_reducible rfl); rfl; rfl; omega; (intro hlt)))
             | (((with_reducible apply go_cmp); rfl; rfl; rfl; rfl))
             | (((with_reducible apply go_st_agg); rfl; rfl; rfl; rfl; rfl; rfl; rfl))
             | (((with_reducible apply go_alloc); rfl; rfl; rfl)))
           | ((with_reducible (show evOps _ _ _ _ _ _)); first
             | (with_reducible apply go_nil))
           | ((with_reducible (show evG _ _ _ _ _)); first
             | (with_reducible apply go_seq)
             | (with_reducible apply go_region)
             | (((with_reducible apply go_cond); rfl) <;> (intro h; simp only [h]; try simp only [decide_eq_true_eq, decide_eq_false_iff_not, Bool.not_eq_true', Bool.not_eq_false', Bool.not_true, Bool.not_false] at h; try exact absurd trivial h))
             | (with_reducible apply go_ret)
             | (with_reducible apply go_skipc)
             | (with_reducible apply go_block)
             | (with_reducible apply go_exit))
           | (with_reducible apply go_kseq)
           | (with_reducible apply go_kblock_exit)
           | (with_reducible apply go_kseq_exit)
           | ((with_reducible apply end_t2); rfl; rfl; rfl; rfl)
    all_goals first
      | (exfalso; omega)
      | rfl
      | trace_state
end Go.Pv.Soil

open Go Go.Proofs Go.Pv
set_option maxHeartbeats 2000000
set_option maxRecDepth 100000
set_option linter.unusedSimpArgs false
set_option linter.unusedVariables false
namespace Go.Pv.Soil

theorem c70 (l : List Int) (hl : l.length ≤ 1000000000) : Contract Tryz.prog 43 [.sl (l.map encInt)] (.ret (.fr 1 (l.map encInt))) := by
  refine contract_of mix Tryz.func43 rfl rfl (by rw [Tryz.ntmps43]; exact Nat.le_of_ble_eq_true rfl) ?_; rw [Tryz.results43, Tryz.ntmps43]; simp only [argsE, Nat.reduceAdd]
  repeat' first
           | (with_reducible apply go_op)
           | (with_reducible apply go_next)
           | ((with_reducible (show evOp _ _ _ _ _ _)); first
             | ((with_reducible (show evOp _ (.move _) _ _ _ _)) ; first | ((with_reducible apply go_mv_sl); rfl; rfl) | ((with_reducible apply go_mv_nilsl); rfl; rfl))
             | ((with_reducible apply go_as))
             | (((with_reducible apply go_bs0); rfl)))
           | ((with_reducible (show evOps _ _ _ _ _ _)); first
             | (with_reducible apply go_nil))
           | ((with_reducible (show evG _ _ _ _ _)); first
             | (with_reducible apply go_seq)
             | (with_reducible apply go_region))
           | (with_reducible apply go_kseq)
  refine go_app_sl (f := encInt) scalInt rfl rfl rfl (fun _ => rfl) (by kernel_rfl) (by kernel_rfl) hl rfl ?_
  repeat' first
           | (with_reducible apply go_op)
           | (with_reducible apply go_next)
           | ((with_reducible (show evOp _ _ _ _ _ _)); first
             | (((with_reducible apply go_mv_os); rfl; rfl))
             | ((with_reducible apply go_as)))
           | ((with_reducible (show evOps _ _ _ _ _ _)); first
             | (with_reducible apply go_nil))
           | ((with_reducible (show evG _ _ _ _ _)); first
             | (with_reducible apply go_ret))
           | (with_reducible apply go_kseq)
  exact end_frn rfl rfl rfl rfl

/-- A grid's cells without its levels. -/
def encG5 (g : Grid) : List D := [.int .i64 g.x, .int .i64 g.y, .int .i64 g.side, .int .i64 g.cols, .int .i64 g.rows]
theorem c91 (g : Grid) (hl : g.levels.length ≤ 1000000000) : Contract Tryz.prog 22 [.agg (encGrid g)] (.ret (.agg (encG5 g ++ [.fr 1 (g.levels.map encInt)]))) := by
  refine contract_of mix Tryz.func22 rfl rfl (by rw [Tryz.ntmps22]; exact Nat.le_of_ble_eq_true rfl) ?_; rw [Tryz.results22, Tryz.ntmps22]; simp only [argsE, Nat.reduceAdd]
  repeat' first
           | (with_reducible apply go_op)
           | (with_reducible apply go_next)
           | ((with_reducible (show evOp _ _ _ _ _ _)); first
             | ((with_reducible (show evOp _ (.load _ _) _ _ _ _)) ; first | ((with_reducible apply go_ld_agg); rfl; rfl; rfl; rfl) | ((with_reducible apply go_load_own); rfl; rfl; rfl; rfl))
             | (((with_reducible apply go_fieldAddr_own); rfl; rfl; rfl))
             | (((with_reducible apply go_fn_fr); rfl; (exact c70 g.levels hl); (exact scalInt); rfl))
             | ((with_reducible (show evOp _ (.store _ _ _) _ _ _ _)) ; first | ((with_reducible apply go_st_agg); rfl; rfl; rfl; rfl; rfl; rfl; rfl) | ((with_reducible apply go_store); rfl; rfl; rfl; rfl; rfl; rfl; (exact Nat.le_of_ble_eq_true rfl); (first | exact Nat.le_of_ble_eq_true rfl | omega); rfl; rfl))
             | (((with_reducible apply go_bx_agg); rfl; rfl; (exact Nat.le_of_ble_eq_true rfl); rfl; rfl))
             | (((with_reducible apply go_alloc); rfl; rfl; rfl)))
           | ((with_reducible (show evOps _ _ _ _ _ _)); first
             | (with_reducible apply go_nil))
           | ((with_reducible (show evG _ _ _ _ _)); first
             | (with_reducible apply go_seq)
             | (with_reducible apply go_region)
             | (with_reducible apply go_ret))
           | (with_reducible apply go_kseq)
  exact finK_ret (fin_agf (cs := encG5 g) (len := g.levels.length) rfl rfl (by simp) rfl)
end Go.Pv.Soil

open Go Go.Proofs Go.Pv
set_option maxHeartbeats 4000000
set_option maxRecDepth 100000
set_option linter.unusedVariables false
set_option linter.unusedSimpArgs false
namespace Go.Pv.Soil
instance tinU : TInt Tryz.prog 106 .u64 := ⟨by kernel_rfl⟩
instance tinI : TInt Tryz.prog 3 .i64 := ⟨by kernel_rfl⟩
theorem h_Mul64 (n : Nat) (h : n ≤ 40) : Contract Tryz.prog 82 [.int .u64 1, .int .u64 (n : Int)] (.ret (.tup [.int .u64 0, .int .u64 (n : Int)])) := by
  refine contract_of mix Tryz.func82 rfl rfl (by rw [Tryz.ntmps82]; exact Nat.le_of_ble_eq_true rfl) ?_; rw [Tryz.results82, Tryz.ntmps82]; simp only [argsE, Nat.reduceAdd]
  repeat' first
           | ((with_reducible apply go_andU); rfl; rfl; rfl; omega)
           | ((with_reducible apply go_shrU); rfl; rfl; rfl; omega)
           | ((with_reducible apply go_mulU); rfl; rfl; rfl; omega)
           | ((with_reducible apply go_addU); rfl; rfl; rfl; omega)
           | (with_reducible apply go_op)
           | (with_reducible apply go_next)
           | ((with_reducible (show evOp _ _ _ _ _ _)); first
             | (((with_reducible apply go_mv_int); rfl; rfl))
             | ((with_reducible apply go_as)))
           | ((with_reducible (show evOps _ _ _ _ _ _)); first
             | (with_reducible apply go_nil))
           | ((with_reducible (show evG _ _ _ _ _)); first
             | (with_reducible apply go_seq)
             | (with_reducible apply go_region)
             | (with_reducible apply go_ret))
           | (with_reducible apply go_kseq)
           | ((with_reducible apply end_t2); rfl; rfl; rfl; rfl)
  all_goals first | rfl | (simp [lkE]; done) | trace_state
theorem h_Mul (n : Nat) (h : n ≤ 40) : Contract Tryz.prog 67 [.int .u64 1, .int .u64 (n : Int)] (.ret (.tup [.int .u64 0, .int .u64 (n : Int)])) := by
  have y1 := h_Mul64 n h
  refine contract_of mix Tryz.func67 rfl rfl (by rw [Tryz.ntmps67]; exact Nat.le_of_ble_eq_true rfl) ?_; rw [Tryz.results67, Tryz.ntmps67]; simp only [argsE, Nat.reduceAdd]
  repeat' first
           | (with_reducible apply go_op)
           | (with_reducible apply go_next)
           | ((with_reducible (show evOp _ _ _ _ _ _)); first
             | ((with_reducible (show evOp _ (.move _) _ _ _ _)) ; first | ((with_reducible apply go_mv_int); rfl; rfl) | ((with_reducible apply go_mv_tup); rfl; rfl))
             | ((with_reducible apply go_as))
             | (((with_reducible apply go_fn_plain); rfl; (exact y1); rfl; (exact Nat.le_of_ble_eq_true rfl); rfl))
             | (((with_reducible apply go_extract); rfl; rfl)))
           | ((with_reducible (show evOps _ _ _ _ _ _)); first
             | (with_reducible apply go_nil))
           | ((with_reducible (show evG _ _ _ _ _)); first
             | (with_reducible apply go_seq)
             | (with_reducible apply go_region)
             | ((with_reducible apply go_cond_f); rfl; rfl)
             | (with_reducible apply go_ret)
             | (with_reducible apply go_skipc))
           | (with_reducible apply go_kseq)
           | ((with_reducible apply end_t2); rfl; rfl; rfl; rfl)
  all_goals rfl
def repL (N n : Nat) : List Int := List.replicate n 30000 ++ List.replicate (N - n) 0
theorem liteInt : LiteF encInt 1 := fun _ => ⟨rfl, rfl, rfl⟩
theorem repL_len {N n : Nat} (h : n ≤ N) : (repL N n).length = N := by simp [repL]; omega
theorem repL_step {N n m : Nat} (h : n + m ≤ N) (hm : m ≤ n) : (repL N n).take n ++ (List.replicate n 30000).take m ++ (repL N n).drop (n + m) = repL N (n + m) := by
  unfold repL
  rw [List.take_append_of_le_length (by simp), List.take_of_length_le (by simp), List.take_replicate, Nat.min_eq_left hm, List.drop_append, List.drop_replicate, List.length_replicate, show n - (n + m) = 0 by omega, List.replicate_zero, List.nil_append, List.drop_replicate, List.replicate_append_replicate,
    show n + m - n = m by omega, show N - n - m = N - (n + m) by omega]
theorem h_Repeat (N : Nat) (h1 : 1 ≤ N) (h2 : N ≤ 40) : Contract Tryz.prog 52 [.sl ([(30000 : Int)].map encInt), .int .i64 N] (.ret (.fr 1 ((List.replicate N 30000).map encInt))) := by
  have y1 := h_Mul N h2
  refine contract_of mix Tryz.func52 rfl rfl (by rw [Tryz.ntmps52]; exact Nat.le_of_ble_eq_true rfl) ?_; rw [Tryz.results52, Tryz.ntmps52]; simp only [argsE, Nat.reduceAdd]
  repeat' first
           | ((with_reducible apply go_convU); rfl; rfl; (first | omega | simp))
           | (with_reducible apply go_op)
           | (with_reducible apply go_next)
           | ((with_reducible (show evOp _ _ _ _ _ _)); first
             | ((with_reducible (show evOp _ (.move _) _ _ _ _)) ; first | ((with_reducible apply go_mv_int); rfl; rfl) | ((with_reducible apply go_mv_bool); rfl; rfl) | ((with_reducible apply go_mv_sl); rfl; rfl) | ((with_reducible apply go_mv_nilsl); rfl; rfl) | ((with_reducible apply go_mv_tup); rfl; rfl))
             | ((with_reducible apply go_as))
             | (((with_reducible apply go_cmp); rfl; rfl; rfl; rfl))
             | ((with_reducible (show evOp _ (.call _) _ _ _ _)) ; first | ((with_reducible apply go_len); rfl; rfl) | ((with_reducible apply go_fn_plain); rfl; (exact y1); rfl; (exact Nat.le_of_ble_eq_true rfl); rfl))
             | (((with_reducible apply go_extract); rfl; rfl))
             | (((with_reducible apply go_conv64); rfl; rfl; omega))
             | (((with_reducible apply go_pick); rfl; rfl; rfl)))
           | ((with_reducible (show evOps _ _ _ _ _ _)); first
             | (with_reducible apply go_nil)
             | ((with_reducible apply go_run); rfl; rfl))
           | ((with_reducible (show evG _ _ _ _ _)); first
             | (with_reducible apply go_seq)
             | (with_reducible apply go_region)
             | ((with_reducible apply go_cond_f); rfl; rfl)
             | (((with_reducible apply go_cond); rfl) <;> (intro h; simp only [h]; try simp only [decide_eq_true_eq, decide_eq_false_iff_not, Bool.not_eq_true', Bool.not_eq_false', Bool.not_true, Bool.not_false] at h; try exact absurd trivial h))
             | (with_reducible apply go_skipc))
           | (with_reducible apply go_kseq)
  all_goals try (exfalso; omega)
  refine go_makeN (len := N) (z := .int .i64 0) rfl rfl (by kernel_rfl) rfl rfl (by kernel_rfl) (by omega) rfl ?_
  have e0 : (List.replicate N (0 : Int)).take 0 ++ [(30000 : Int)].take 1 ++ (List.replicate N (0 : Int)).drop (0 + 1) = repL N 1 := by simp [repL, List.drop_replicate]
  repeat' first
           | ((with_reducible (show evG _ _ (.region 7 _ _) _ _)); (with_reducible apply go_regionM))
           | ((with_reducible apply (goM_copyAt (f := encInt) (l := List.replicate N 0) (new := [30000]) (r := repL N 1) (m := 1) liteInt)); rfl; rfl; (first | rfl | (rw [List.map_replicate]; rfl) | (simp <;> done) | (simp <;> rfl)); rfl; (first | omega | (simp <;> done) | (simp <;> omega)); (rfl); rfl; (first | omega | (simp <;> done) | (simp <;> omega)); (first | omega | (simp <;> done) | (simp <;> omega)); (exact e0); rfl)
           | (with_reducible apply goM_op)
           | (with_reducible apply goM_next)
           | (with_reducible apply goM_nil)
           | (with_reducible apply go_op)
           | (with_reducible apply go_next)
           | ((with_reducible (show evOp _ _ _ _ _ _)); first
             | ((with_reducible (show evOp _ (.move _) _ _ _ _)) ; first | ((with_reducible apply go_mv_int); rfl; rfl) | ((with_reducible apply go_mv_sl); rfl; rfl) | ((with_reducible apply go_mv_os); rfl; rfl))
             | ((with_reducible apply go_as)))
           | ((with_reducible (show evOps _ _ _ _ _ _)); first
             | (with_reducible apply go_nil))
           | ((with_reducible (show evG _ _ _ _ _)); first
             | (with_reducible apply go_seq)
             | (with_reducible apply go_block))
           | (with_reducible apply go_kseq)
  refine go_while (fun n : Nat => N - n) (fun n => ⟨[(8, .int .i64 (n : Int)), (7, .os 0 0 N)], [(0, ⟨1, true, (repL N n).map encInt⟩)], 32, 48⟩) (fun n => 1 ≤ n ∧ n ≤ N) 1 (entails_eq (nx := 32) (k := 0) (ns := []) (ks := [8, 7]) [(704, 0)] rfl (by simp) (by kernel_rfl)) ⟨by omega, by omega⟩ ?_
  rintro n ⟨hn1, hn2⟩
  have hlen := repL_len hn2
  by_cases hlt : n < N
  · have em : min (N - n) n ≤ n := by omega
    have e1 : (repL N n).take (0 + (n : Int).toNat) ++ (List.replicate n 30000).take (min (N - n) n) ++ (repL N n).drop (0 + (n : Int).toNat + min (N - n) n) = repL N (n + min (N - n) n) := by
      rw [show 0 + (n : Int).toNat = n by omega]
      exact repL_step (by omega) em
    have e2 : contentD (lkH [(0, ⟨1, true, (repL N n).map encInt⟩)]) (.os 0 0 (n : Int).toNat) = some ((List.replicate n 30000).map encInt) := by
      simp only [contentD, lkH, if_true, Int.toNat_natCast, List.drop_zero, Option.bind_some]
      rw [if_pos (by rw [List.length_map]; omega), ← List.map_take]
      simp [repL]
    repeat' first
           | ((with_reducible apply (go_drawC 9 7 [[0], [], []])); kernel_rfl; rfl)
           | ((with_reducible apply go_drop_os); rfl; rfl; rfl; rfl; rfl; omega)
           | ((with_reducible apply (go_linec_copyAt (f := encInt) (l := repL N n) (new := List.replicate n 30000) (r := repL N (n + min (N - n) n)) (m := min (N - n) n) liteInt)); rfl; rfl; (first | rfl | (rw [List.map_replicate]; rfl) | (simp <;> done) | (simp <;> rfl)); rfl; (first | omega | (simp <;> done) | (simp <;> omega)); (exact e2); rfl; (first | omega | (simp <;> done) | (simp <;> omega)); (first | omega | (simp <;> done) | (simp <;> omega)); (exact e1); rfl)
           | (with_reducible apply go_op)
           | (with_reducible apply go_next)
           | ((with_reducible (show evOp _ _ _ _ _ _)); first
             | ((with_reducible (show evOp _ (.move _) _ _ _ _)) ; first | ((with_reducible apply go_mv_int); rfl; rfl) | ((with_reducible apply go_mv_os); rfl; rfl))
             | ((with_reducible apply go_as))
             | ((with_reducible (show evOp _ (.binOp _ _ _ _ _) _ _ _ _)) ; first | ((with_reducible apply go_cmp); rfl; rfl; rfl; rfl) | ((with_reducible apply go_add); rfl; rfl; rfl; omega))
             | (((with_reducible apply go_len_own); rfl; rfl; rfl))
             | (((with_reducible apply go_take_os); rfl; rfl; rfl; rfl; rfl; omega)))
           | ((with_reducible (show evOps _ _ _ _ _ _)); first
             | (with_reducible apply go_nil)
             | (with_reducible apply go_take)
             | (with_reducible apply go_take0))
           | ((with_reducible (show evG _ _ _ _ _)); first
             | (with_reducible apply go_seq)
             | (with_reducible apply go_region)
             | (((with_reducible apply go_cond); rfl) <;> (intro h; simp only [h]; try simp only [decide_eq_true_eq, decide_eq_false_iff_not, Bool.not_eq_true', Bool.not_eq_false', Bool.not_true, Bool.not_false] at h; try exact absurd trivial h))
             | (with_reducible apply go_ret)
             | (with_reducible apply go_skipc)
             | (with_reducible apply go_block)
             | (with_reducible apply go_exit))
           | (with_reducible apply go_klinec)
           | (with_reducible apply go_linec_drop)
           | (with_reducible apply go_linec_drop0)
           | (with_reducible apply go_linec)
           | (with_reducible apply go_linec_nil)
           | (with_reducible apply go_klc)
           | (with_reducible apply go_again_nil)
           | ((with_reducible apply go_again); rfl; (intro id'))
           | ((with_reducible apply go_kagain); rfl)
           | (with_reducible apply go_kseq)
           | (with_reducible apply go_kblock)
           | (with_reducible apply go_kblock_exit)
           | (with_reducible apply go_kseq_exit)
    all_goals try (exfalso; omega)
    exact ⟨n + min (N - n) n, by omega, ⟨by omega, by omega⟩, entails_eq (nx := 32) (k := 0) (ns := []) (ks := [8, 7]) [(0, 0)] rfl (by simp) (by kernel_rfl)⟩
  · have e : n = N := by omega
    subst e
    repeat' first
           | (with_reducible apply go_op)
           | (with_reducible apply go_next)
           | ((with_reducible (show evOp _ _ _ _ _ _)); first
             | ((with_reducible (show evOp _ (.move _) _ _ _ _)) ; first | ((with_reducible apply go_mv_int); rfl; rfl) | ((with_reducible apply go_mv_os); rfl; rfl))
             | ((with_reducible apply go_as))
             | (((with_reducible apply go_cmp); rfl; rfl; rfl; rfl))
             | (((with_reducible apply go_len_own); rfl; rfl; rfl)))
           | ((with_reducible (show evOps _ _ _ _ _ _)); first
             | (with_reducible apply go_nil)
             | (with_reducible apply go_take))
           | ((with_reducible (show evG _ _ _ _ _)); first
             | (with_reducible apply go_seq)
             | (with_reducible apply go_region)
             | (((with_reducible apply go_cond); rfl) <;> (intro h; simp only [h]; try simp only [decide_eq_true_eq, decide_eq_false_iff_not, Bool.not_eq_true', Bool.not_eq_false', Bool.not_true, Bool.not_false] at h; try exact absurd trivial h))
             | ((with_reducible apply (go_drawM 9)); decide +kernel; rfl)
             | (with_reducible apply go_ret)
             | (with_reducible apply go_skipc)
             | (with_reducible apply go_block)
             | (with_reducible apply go_exit))
           | (with_reducible apply go_kseq)
           | (with_reducible apply go_kblock_exit)
           | (with_reducible apply go_kseq_exit)
    all_goals try (exfalso; omega)
    rw [show repL n n = List.replicate n 30000 by simp [repL]]
    exact end_frn (l := List.replicate n 30000) rfl rfl (by simp) rfl
theorem h_frame (g : Grid) (h : OkGrid g) (h40 : g.levels.length ≤ 40) : Contract Tryz.prog 40 [.agg (encGrid g)] (.ret (.agg (encG5 g ++ [.fr 1 ((List.replicate g.levels.length (30000 : Int)).map encInt)]))) := by
  have hlen := h.len
  have hb := h.bds
  have hm := mul_bd (a := g.cols) (b := g.rows) (m := 1024) (n := 1024) (by omega) (by omega)
  have y1 : Contract Tryz.prog 52 [.sl ([(30000 : Int)].map encInt), .int .i64 (g.cols * g.rows)] (.ret (.fr 1 ((List.replicate g.levels.length (30000 : Int)).map encInt))) := by
    rw [← hlen]
    exact h_Repeat g.levels.length (by omega) h40
  refine contract_of mix Tryz.func40 rfl rfl (by rw [Tryz.ntmps40]; exact Nat.le_of_ble_eq_true rfl) ?_; rw [Tryz.results40, Tryz.ntmps40]; simp only [argsE, Nat.reduceAdd]
  repeat' first
           | (with_reducible apply go_op)
           | (with_reducible apply go_next)
           | ((with_reducible (show evOp _ _ _ _ _ _)); first
             | ((with_reducible (show evOp _ (.load _ _) _ _ _ _)) ; first | ((with_reducible apply go_ld_agg); rfl; rfl; rfl; rfl) | ((with_reducible apply go_load_own); rfl; rfl; rfl; rfl))
             | (((with_reducible apply go_fieldAddr_own); rfl; rfl; rfl))
             | (((with_reducible apply go_mul); rfl; rfl; rfl; omega))
             | (((with_reducible apply go_fn_fr); rfl; (exact y1); (exact scalInt); rfl))
             | ((with_reducible (show evOp _ (.store _ _ _) _ _ _ _)) ; first | ((with_reducible apply go_st_agg); rfl; rfl; rfl; rfl; rfl; rfl; rfl) | ((with_reducible apply go_store); rfl; rfl; rfl; rfl; rfl; rfl; (exact Nat.le_of_ble_eq_true rfl); (first | exact Nat.le_of_ble_eq_true rfl | omega); rfl; rfl))
             | (((with_reducible apply go_bx_agg); rfl; rfl; (exact Nat.le_of_ble_eq_true rfl); rfl; rfl))
             | (((with_reducible apply go_alloc); rfl; rfl; rfl))
             | (((with_reducible apply go_bs1_int); rfl; rfl; rfl)))
           | ((with_reducible (show evOps _ _ _ _ _ _)); first
             | (with_reducible apply go_nil))
           | ((with_reducible (show evG _ _ _ _ _)); first
             | (with_reducible apply go_seq)
             | (with_reducible apply go_region)
             | (with_reducible apply go_ret))
           | (with_reducible apply go_kseq)
  exact finK_ret (fin_agf (cs := encG5 g) (len := (List.replicate g.levels.length (30000 : Int)).length) rfl rfl (by simp) rfl)
end Go.Pv.Soil

open Go Go.Proofs Go.Pv
set_option maxHeartbeats 4000000
set_option maxRecDepth 100000
set_option linter.unusedVariables false
set_option linter.unusedSimpArgs false
namespace Go.Pv.Soil
theorem h_both (c : Chan) (hc : OkChan c) (g : Grid) (hl : g.levels.length < 1000000000000) : Contract Tryz.prog 23 [.agg (encChan c), .agg (encGrid g)] (.ret (.int .i64 (gridE g))) := by
  have y1 := h_Check c hc
  have y2 := c144 g hl
  refine contract_of mix Tryz.func23 rfl rfl (by rw [Tryz.ntmps23]; exact Nat.le_of_ble_eq_true rfl) ?_; rw [Tryz.results23, Tryz.ntmps23]; simp only [argsE, Nat.reduceAdd]
  repeat' first
           | (with_reducible apply go_op)
           | (with_reducible apply go_next)
           | ((with_reducible (show evOp _ _ _ _ _ _)); first
             | (((with_reducible apply go_mv_int); rfl; rfl))
             | ((with_reducible apply go_as))
             | (((with_reducible apply go_ld_agg); rfl; rfl; rfl; rfl))
             | (((with_reducible apply go_cmp); rfl; rfl; rfl; rfl))
             | ((with_reducible (show evOp _ (.call _) _ _ _ _)) ; first | ((with_reducible apply go_fn_int); rfl; (exact y1); rfl) | ((with_reducible apply go_fn_int); rfl; (exact y2); rfl))
             | (((with_reducible apply go_bx_agg); rfl; rfl; (exact Nat.le_of_ble_eq_true rfl); rfl; rfl)))
           | ((with_reducible (show evOps _ _ _ _ _ _)); first
             | (with_reducible apply go_nil))
           | ((with_reducible (show evG _ _ _ _ _)); first
             | (with_reducible apply go_seq)
             | (with_reducible apply go_region)
             | ((with_reducible apply go_cond_f); rfl; rfl)
             | (with_reducible apply go_ret)
             | (with_reducible apply go_skipc))
           | (with_reducible apply go_kseq)
           | ((with_reducible apply end_int); rfl)
           | (with_reducible rfl)
  all_goals first | rfl | (exfalso; omega) | trace_state
theorem h_three (c : Chan) (hc : OkChan c) (g m : Grid) (hg : g.levels.length < 1000000000000) (hm : m.levels.length < 1000000000000) (e1 : gridE g = 0) (e2 : gridE m = 0) (e3 : alikeE g m = true) :
    Contract Tryz.prog 46 [.agg (encChan c), .agg (encGrid g), .agg (encGrid m)] (.ret (.int .i64 0)) := by
  have y1 := h_both c hc g hg
  have y2 := c144 m hm
  rw [e1] at y1
  rw [e2] at y2
  have h3 := of_decide_eq_true e3
  refine contract_of mix Tryz.func46 rfl rfl (by rw [Tryz.ntmps46]; exact Nat.le_of_ble_eq_true rfl) ?_; rw [Tryz.results46, Tryz.ntmps46]; simp only [argsE, Nat.reduceAdd]
  repeat' first
           | (with_reducible apply go_op)
           | (with_reducible apply go_next)
           | ((with_reducible (show evOp _ _ _ _ _ _)); first
             | ((with_reducible (show evOp _ (.move _) _ _ _ _)) ; first | ((with_reducible apply go_mv_int); rfl; rfl) | ((with_reducible apply go_mv_bool); rfl; rfl))
             | ((with_reducible apply go_as))
             | ((with_reducible (show evOp _ (.load _ _) _ _ _ _)) ; first | ((with_reducible apply go_ld_agg); rfl; rfl; rfl; rfl) | ((with_reducible apply go_load_own); rfl; rfl; rfl; rfl))
             | (((with_reducible apply go_fieldAddr_own); rfl; rfl; rfl))
             | (((with_reducible apply go_cmp); rfl; rfl; rfl; rfl))
             | ((with_reducible (show evOp _ (.call _) _ _ _ _)) ; first | ((with_reducible apply go_fn_int); rfl; (exact y1); rfl) | ((with_reducible apply go_fn_int); rfl; (exact y2); rfl))
             | (((with_reducible apply go_pick); rfl; rfl; rfl))
             | (((with_reducible apply go_bx_agg); rfl; rfl; (exact Nat.le_of_ble_eq_true rfl); rfl; rfl)))
           | ((with_reducible (show evOps _ _ _ _ _ _)); first
             | (with_reducible apply go_nil)
             | ((with_reducible apply go_run); rfl; rfl)
             | ((with_reducible apply go_pass); rfl; rfl; rfl)
             | (((with_reducible apply go_guard); rfl) <;> (intro h; simp only [h, Bool.not_true, Bool.not_false]; (try with_reducible (refine ⟨rfl, ?_⟩)); try simp only [decide_eq_true_eq, decide_eq_false_iff_not, Bool.not_eq_true', Bool.not_eq_false', Bool.not_true, Bool.not_false] at h; try exact absurd trivial h)))
           | ((with_reducible (show evG _ _ _ _ _)); first
             | (with_reducible apply go_seq)
             | (with_reducible apply go_region)
             | ((with_reducible apply go_cond_t); rfl; rfl)
             | ((with_reducible apply go_cond_f); rfl; rfl)
             | (((with_reducible apply go_cond); rfl) <;> (intro h; simp only [h]; try simp only [decide_eq_true_eq, decide_eq_false_iff_not, Bool.not_eq_true', Bool.not_eq_false', Bool.not_true, Bool.not_false] at h; try exact absurd trivial h))
             | (with_reducible apply go_ret)
             | (with_reducible apply go_skipc))
           | (with_reducible apply go_kseq)
           | (with_reducible apply go_kseq_ret)
           | ((with_reducible apply end_int); rfl)
           | (with_reducible rfl)
  all_goals first | rfl | (exfalso; omega) | trace_state
def gcen (g : Grid) (k : Nat) : Geo.Pt := ⟨(centreE g k).x, (centreE g k).y⟩
theorem gcen_ok {m : Grid} (h : OkGrid m) {i : Nat} (hi : i < m.levels.length) : Geo.ptOK (gcen m i) = true := by
  obtain ⟨h1, h2, h3, h4⟩ := cell_bds h hi
  have hb := h.bds
  have he := h.ends
  have e1 : ((i : Int) % m.cols + 1) * m.side ≤ m.cols * m.side := Int.mul_le_mul_of_nonneg_right (by omega) (by omega)
  have e2 : ((i : Int) / m.cols + 1) * m.side ≤ m.rows * m.side := Int.mul_le_mul_of_nonneg_right (by omega) (by omega)
  rw [Int.add_mul] at e1 e2
  refine decide_eq_true ⟨⟨?_, ?_⟩, ?_, ?_⟩ <;> simp only [gcen, centreE] <;> omega
noncomputable def gV (c : Chan) (g : Grid) (k : Nat) : Int := desV c (gcen g k)
noncomputable def gB (c : Chan) (g : Grid) (k : Nat) : Bool := desB c (gcen g k)
/-- The design levels of the first cells, less a number. -/
noncomputable def dgL (c : Chan) (g : Grid) (less : Int) (i : Nat) : List Int := (List.range g.levels.length).map fun k => if k < i ∧ gB c g k = true then gV c g k - less else 30000
theorem dgL_len (c : Chan) (g : Grid) (less : Int) (i : Nat) : (dgL c g less i).length = g.levels.length := by simp [dgL]
theorem dgL_0 (c : Chan) (g : Grid) (less : Int) : dgL c g less 0 = List.replicate g.levels.length 30000 := by
  apply List.ext_getElem
  · simp [dgL]
  · intro k h1 h2
    simp [dgL]
theorem dgL_yes {c : Chan} {g : Grid} {less : Int} {i : Nat} (hi : i < g.levels.length) (h : gB c g i = true) : (dgL c g less i).set i (gV c g i - less) = dgL c g less (i + 1) := by
  apply List.ext_getElem
  · simp [dgL]
  · intro k h1 h2
    simp only [dgL, List.getElem_set, List.getElem_map, List.getElem_range]
    by_cases e : i = k
    · subst e
      rw [if_pos rfl, if_pos ⟨by omega, h⟩]
    · rw [if_neg e]
      by_cases hk : k < i
      · simp [hk, show k < i + 1 by omega]
      · simp [hk, show ¬ k < i + 1 by omega]
theorem dgL_no {c : Chan} {g : Grid} {less : Int} {i : Nat} (h : gB c g i = false) : dgL c g less i = dgL c g less (i + 1) := by
  unfold dgL
  apply List.map_congr_left
  intro k _
  by_cases e : k = i
  · subst e
    simp [h]
  · by_cases hk : k < i
    · simp [hk, show k < i + 1 by omega]
    · simp [hk, show ¬ k < i + 1 by omega]
theorem h_grid (c : Chan) (hc : OkChan c) (g : Grid) (h0 : gridE g = 0) (h40 : g.levels.length ≤ 40) (less : Int) (hless : 0 ≤ less ∧ less ≤ 1000) :
    Contract Tryz.prog 21 [.agg (encChan c), .agg (encGrid g), .int .i64 less] (.ret (.tup [.agg (encG5 g ++ [.fr 1 ((dgL c g less g.levels.length).map encInt)]), .int .i64 0])) := by
  have h := okGrid h0
  have hov := hc.ov
  have y1 := h_both c hc g (by omega)
  rw [h0] at y1
  have y2 := h_frame g h h40
  refine contract_of mix Tryz.func21 rfl rfl (by rw [Tryz.ntmps21]; exact Nat.le_of_ble_eq_true rfl) ?_; rw [Tryz.results21, Tryz.ntmps21]; simp only [argsE, Nat.reduceAdd]
  repeat' first
           | (with_reducible apply go_op)
           | (with_reducible apply go_next)
           | ((with_reducible (show evOp _ _ _ _ _ _)); first
             | (((with_reducible apply go_mv_int); rfl; rfl))
             | ((with_reducible apply go_as))
             | ((with_reducible (show evOp _ (.load _ _) _ _ _ _)) ; first | ((with_reducible apply go_ld_agg); rfl; rfl; rfl; rfl) | ((with_reducible apply go_load_own); rfl; rfl; rfl; rfl))
             | (((with_reducible apply go_fieldAddr_own); rfl; rfl; rfl))
             | (((with_reducible apply go_cmp); rfl; rfl; rfl; rfl))
             | ((with_reducible (show evOp _ (.call _) _ _ _ _)) ; first | ((with_reducible apply go_len_own); rfl; rfl; rfl) | ((with_reducible apply go_fn_int); rfl; (exact y1); rfl) | ((with_reducible apply (go_fn_agf (cs := encG5 g))); rfl; (exact y2); (exact scalInt); rfl; rfl; rfl; rfl; rfl))
             | (((with_reducible apply go_st_agg); rfl; rfl; rfl; rfl; rfl; rfl; rfl))
             | (((with_reducible apply go_bx_agg); rfl; rfl; (exact Nat.le_of_ble_eq_true rfl); rfl; rfl))
             | (((with_reducible apply go_alloc); rfl; rfl; rfl)))
           | ((with_reducible (show evOps _ _ _ _ _ _)); first
             | (with_reducible apply go_nil))
           | ((with_reducible (show evG _ _ _ _ _)); first
             | (with_reducible apply go_seq)
             | (with_reducible apply go_region)
             | ((with_reducible apply go_cond_f); rfl; rfl)
             | (with_reducible apply go_skipc)
             | (with_reducible apply go_block))
           | (with_reducible apply go_kseq)
  all_goals try (exfalso; omega)

  rw [← dgL_0 c g less]
  simp only [dgL_len]
  refine go_count g.levels.length (fun i => ⟨[(25, .int .i64 i), (24, .int .i64 g.levels.length), (9, .op 3 0 0), (3, .op 0 0 0), (4, .op 1 0 0), (2, .int .i64 less), (6, .op 2 0 0)], [(0, ⟨5, true, [encChan c]⟩), (1, ⟨6, true, [encGrid g]⟩), (2, ⟨6, false, [[.int .i64 0, .int .i64 0, .int .i64 0, .int .i64 0, .int .i64 0, .nilsl]]⟩), (3, ⟨6, false, [encG5 g ++ [.os 4 0 g.levels.length]]⟩), (4, ⟨1, true, (dgL c g less i).map encInt⟩)], 32, 46⟩) (fun i => True)
    (entails_eq (nx := 32) (k := 0) (ns := []) (ks := [25, 24, 9, 3, 4, 2, 6]) [(0, 0), (32, 1), (64, 2), (384, 3), (357, 4)] rfl (by simp) (by kernel_rfl)) trivial ?_
  intro i hi _
  have hle := dgL_len c g less i
  by_cases hlt : i < g.levels.length
  · have y3 : Contract Tryz.prog 42 [.agg (encGrid g), .int .i64 i] (.ret (.agg (Geo.encPt (gcen g i)))) := h_centre g h i hlt h0
    have hp := gcen_ok h hlt
    have y4 : Contract Tryz.prog 41 [.agg (encChan c), .agg (Geo.encPt (gcen g i))] (.ret (.tup [.int .i64 (gV c g i), .bool (gB c g i)])) := h_design c hc (gcen g i) hp
    cases hB : gB c g i with
    | true =>
      have hbd := des_bd hc hp (m := c.over - 20000) (by omega) (axis_low hc) hB
      have hbd' : c.over - 20000 ≤ gV c g i ∧ gV c g i ≤ 20000 := hbd
      rw [hB] at y4
      repeat' first
           | (with_reducible apply go_op)
           | (with_reducible apply go_next)
           | ((with_reducible (show evOp _ _ _ _ _ _)); first
             | ((with_reducible (show evOp _ (.move _) _ _ _ _)) ; first | ((with_reducible apply go_mv_int); rfl; rfl) | ((with_reducible apply go_mv_bool); rfl; rfl) | ((with_reducible apply go_mv_tup); rfl; rfl))
             | ((with_reducible apply go_as))
             | ((with_reducible (show evOp _ (.load _ _) _ _ _ _)) ; first | ((with_reducible apply go_ld_agg); rfl; rfl; rfl; rfl) | ((with_reducible apply go_load_own); rfl; rfl; rfl; rfl))
             | (((with_reducible apply go_fieldAddr_own); rfl; rfl; rfl))
             | (((with_reducible apply go_index_om); rfl; rfl; rfl; (with_reducible rfl); rfl; rfl; omega; (intro hlt)))
             | ((with_reducible (show evOp _ (.binOp _ _ _ _ _) _ _ _ _)) ; first | ((with_reducible apply go_cmp); rfl; rfl; rfl; rfl) | ((with_reducible apply go_sub); rfl; rfl; rfl; omega))
             | ((with_reducible (show evOp _ (.call _) _ _ _ _)) ; first | ((with_reducible apply go_fn_plain); rfl; (exact y3); rfl; (exact Nat.le_of_ble_eq_true rfl); rfl) | ((with_reducible apply go_fn_plain); rfl; (exact y4); rfl; (exact Nat.le_of_ble_eq_true rfl); rfl))
             | (((with_reducible apply go_st_agg); rfl; rfl; rfl; rfl; rfl; rfl; rfl))
             | (((with_reducible apply go_extract); rfl; rfl)))
           | ((with_reducible (show evOps _ _ _ _ _ _)); first
             | (with_reducible apply go_nil)
             | ((with_reducible apply go_pre); rfl)
             | (with_reducible apply go_pre_nil)
             | ((with_reducible apply go_suf); rfl)
             | (with_reducible apply go_suf_nil))
           | ((with_reducible (show evG _ _ _ _ _)); first
             | (with_reducible apply go_seq)
             | (with_reducible apply go_region)
             | ((with_reducible apply go_cond_t); rfl; rfl)
             | (((with_reducible apply go_cond); rfl) <;> (intro h; simp only [h]; try simp only [decide_eq_true_eq, decide_eq_false_iff_not, Bool.not_eq_true', Bool.not_eq_false', Bool.not_true, Bool.not_false] at h; try exact absurd trivial h))
             | ((with_reducible apply go_order); kernel_rfl; rfl)
             | (with_reducible apply go_ret)
             | (with_reducible apply go_skipc)
             | (with_reducible apply go_block)
             | (with_reducible apply go_exit))
           | (with_reducible apply go_kseq)
           | (with_reducible apply go_ksuf)
           | (with_reducible apply go_kblock_exit)
           | (with_reducible apply go_kseq_exit)
      all_goals try (exfalso; omega)
      refine go_store_om (f := encInt) (l := dgL c g less i) (a := gV c g i - less) rfl rfl rfl (by omega) rfl rfl rfl rfl (Nat.le_refl _) rfl ?_
      repeat' first
           | (with_reducible apply go_op)
           | (with_reducible apply go_next)
           | ((with_reducible (show evOp _ _ _ _ _ _)); first
             | (((with_reducible apply go_mv_int); rfl; rfl))
             | (((with_reducible apply go_add); rfl; rfl; rfl; omega)))
           | ((with_reducible (show evOps _ _ _ _ _ _)); first
             | (with_reducible apply go_nil))
           | ((with_reducible (show evG _ _ _ _ _)); first
             | (with_reducible apply go_region))
           | (with_reducible apply go_kseq)
           | (with_reducible apply go_kblock)
      refine ⟨by omega, trivial, ?_⟩
      rw [dgL_yes (by omega) hB]
      exact entails_eq (nx := 32) (k := 0) (ns := []) (ks := [25, 24, 9, 3, 4, 2, 6]) [(0, 0), (1, 1), (2, 2), (3, 3), (4, 4)] rfl (by simp) (by kernel_rfl)
    | false =>
      rw [hB] at y4
      repeat' first
           | (with_reducible apply go_op)
           | (with_reducible apply go_next)
           | ((with_reducible (show evOp _ _ _ _ _ _)); first
             | ((with_reducible (show evOp _ (.move _) _ _ _ _)) ; first | ((with_reducible apply go_mv_int); rfl; rfl) | ((with_reducible apply go_mv_bool); rfl; rfl) | ((with_reducible apply go_mv_tup); rfl; rfl))
             | ((with_reducible apply go_as))
             | (((with_reducible apply go_ld_agg); rfl; rfl; rfl; rfl))
             | ((with_reducible (show evOp _ (.binOp _ _ _ _ _) _ _ _ _)) ; first | ((with_reducible apply go_cmp); rfl; rfl; rfl; rfl) | ((with_reducible apply go_add); rfl; rfl; rfl; omega))
             | ((with_reducible (show evOp _ (.call _) _ _ _ _)) ; first | ((with_reducible apply go_fn_plain); rfl; (exact y3); rfl; (exact Nat.le_of_ble_eq_true rfl); rfl) | ((with_reducible apply go_fn_plain); rfl; (exact y4); rfl; (exact Nat.le_of_ble_eq_true rfl); rfl))
             | (((with_reducible apply go_st_agg); rfl; rfl; rfl; rfl; rfl; rfl; rfl))
             | (((with_reducible apply go_extract); rfl; rfl)))
           | ((with_reducible (show evOps _ _ _ _ _ _)); first
             | (with_reducible apply go_nil)
             | ((with_reducible apply go_pre); rfl)
             | (with_reducible apply go_pre_nil)
             | ((with_reducible apply go_suf); rfl)
             | (with_reducible apply go_suf_nil))
           | ((with_reducible (show evG _ _ _ _ _)); first
             | (with_reducible apply go_seq)
             | (with_reducible apply go_region)
             | ((with_reducible apply go_cond_f); rfl; rfl)
             | (((with_reducible apply go_cond); rfl) <;> (intro h; simp only [h]; try simp only [decide_eq_true_eq, decide_eq_false_iff_not, Bool.not_eq_true', Bool.not_eq_false', Bool.not_true, Bool.not_false] at h; try exact absurd trivial h))
             | ((with_reducible apply go_order); kernel_rfl; rfl)
             | (with_reducible apply go_ret)
             | (with_reducible apply go_skipc)
             | (with_reducible apply go_block)
             | (with_reducible apply go_exit))
           | (with_reducible apply go_kseq)
           | (with_reducible apply go_ksuf)
           | (with_reducible apply go_kblock)
           | (with_reducible apply go_kblock_exit)
           | (with_reducible apply go_kseq_exit)
      all_goals try (exfalso; omega)
      refine ⟨by omega, trivial, ?_⟩
      rw [dgL_no hB]
      exact entails_eq (nx := 32) (k := 0) (ns := []) (ks := [25, 24, 9, 3, 4, 2, 6]) [(0, 0), (1, 1), (2, 2), (3, 3), (4, 4)] rfl (by simp) (by kernel_rfl)
  · have e : i = g.levels.length := by omega
    subst e
    repeat' first
           | (with_reducible apply go_op)
           | (with_reducible apply go_next)
           | ((with_reducible (show evOp _ _ _ _ _ _)); first
             | (((with_reducible apply go_mv_int); rfl; rfl))
             | ((with_reducible apply go_as))
             | (((with_reducible apply go_ld_agg); rfl; rfl; rfl; rfl))
             | (((with_reducible apply go_cmp); rfl; rfl; rfl; rfl))
             | (((with_reducible apply go_st_agg); rfl; rfl; rfl; rfl; rfl; rfl; rfl)))
           | ((with_reducible (show evOps _ _ _ _ _ _)); first
             | (with_reducible apply go_nil)
             | ((with_reducible apply go_pre); rfl))
           | ((with_reducible (show evG _ _ _ _ _)); first
             | (with_reducible apply go_seq)
             | (with_reducible apply go_region)
             | (((with_reducible apply go_cond); rfl) <;> (intro h; simp only [h]; try simp only [decide_eq_true_eq, decide_eq_false_iff_not, Bool.not_eq_true', Bool.not_eq_false', Bool.not_true, Bool.not_false] at h; try exact absurd trivial h))
             | ((with_reducible apply go_order); kernel_rfl; rfl)
             | (with_reducible apply go_ret)
             | (with_reducible apply go_skipc)
             | (with_reducible apply go_block)
             | (with_reducible apply go_exit))
           | (with_reducible apply go_kseq)
           | (with_reducible apply go_kblock_exit)
           | (with_reducible apply go_kseq_exit)
    all_goals first
      | (exfalso; omega)
      | exact finK_ret (fin_agf2 (cs := encG5 g) (len := g.levels.length) rfl rfl (by simp [dgL_len]) rfl rfl rfl)
      | trace_state
end Go.Pv.Soil

open Go Go.Proofs Go.Pv
set_option maxHeartbeats 4000000
set_option maxRecDepth 100000
set_option linter.unusedVariables false
set_option linter.unusedSimpArgs false
namespace Go.Pv.Soil
theorem h_DesignGrid (c : Chan) (hc : OkChan c) (g : Grid) (h0 : gridE g = 0) (h40 : g.levels.length ≤ 40) :
    Contract Tryz.prog 10 [.agg (encChan c), .agg (encGrid g)] (.ret (.tup [.agg (encG5 g ++ [.fr 1 ((dgL c g 0 g.levels.length).map encInt)]), .int .i64 0])) := by
  have y1 := h_grid c hc g h0 h40 0 (by omega)
  have hle := dgL_len c g 0 g.levels.length
  refine contract_of mix Tryz.func10 rfl rfl (by rw [Tryz.ntmps10]; exact Nat.le_of_ble_eq_true rfl) ?_; rw [Tryz.results10, Tryz.ntmps10]; simp only [argsE, Nat.reduceAdd]
  repeat' first
           | (with_reducible apply go_op)
           | (with_reducible apply go_next)
           | ((with_reducible (show evOp _ _ _ _ _ _)); first
             | (((with_reducible apply go_mv_int); rfl; rfl))
             | ((with_reducible apply go_as))
             | (((with_reducible apply go_ld_agg); rfl; rfl; rfl; rfl))
             | (((with_reducible apply (go_fn_agf2 (cs := encG5 g))); rfl; (exact y1); (exact scalInt); rfl; rfl; rfl; rfl; rfl; rfl))
             | (((with_reducible apply go_st_agg); rfl; rfl; rfl; rfl; rfl; rfl; rfl))
             | (((with_reducible apply go_extract); rfl; rfl))
             | (((with_reducible apply go_bx_agg); rfl; rfl; (exact Nat.le_of_ble_eq_true rfl); rfl; rfl))
             | (((with_reducible apply go_alloc); rfl; rfl; rfl)))
           | ((with_reducible (show evOps _ _ _ _ _ _)); first
             | (with_reducible apply go_nil))
           | ((with_reducible (show evG _ _ _ _ _)); first
             | (with_reducible apply go_seq)
             | (with_reducible apply go_region)
             | (with_reducible apply go_ret))
           | (with_reducible apply go_kseq)
  all_goals first
    | exact finK_ret (fin_agf2 (cs := encG5 g) rfl rfl (by simp) rfl rfl rfl)
    | trace_state
theorem h_ToleranceGrid (c : Chan) (hc : OkChan c) (g : Grid) (h0 : gridE g = 0) (h40 : g.levels.length ≤ 40) :
    Contract Tryz.prog 11 [.agg (encChan c), .agg (encGrid g)] (.ret (.tup [.agg (encG5 g ++ [.fr 1 ((dgL c g c.over g.levels.length).map encInt)]), .int .i64 0])) := by
  have y1 := h_grid c hc g h0 h40 c.over hc.ov
  have hle := dgL_len c g c.over g.levels.length
  refine contract_of mix Tryz.func11 rfl rfl (by rw [Tryz.ntmps11]; exact Nat.le_of_ble_eq_true rfl) ?_; rw [Tryz.results11, Tryz.ntmps11]; simp only [argsE, Nat.reduceAdd]
  repeat' first
           | (with_reducible apply go_op)
           | (with_reducible apply go_next)
           | ((with_reducible (show evOp _ _ _ _ _ _)); first
             | (((with_reducible apply go_mv_int); rfl; rfl))
             | ((with_reducible apply go_as))
             | ((with_reducible (show evOp _ (.load _ _) _ _ _ _)) ; first | ((with_reducible apply go_ld_agg); rfl; rfl; rfl; rfl) | ((with_reducible apply go_load_own); rfl; rfl; rfl; rfl))
             | (((with_reducible apply go_fieldAddr_own); rfl; rfl; rfl))
             | (((with_reducible apply (go_fn_agf2 (cs := encG5 g))); rfl; (exact y1); (exact scalInt); rfl; rfl; rfl; rfl; rfl; rfl))
             | (((with_reducible apply go_st_agg); rfl; rfl; rfl; rfl; rfl; rfl; rfl))
             | (((with_reducible apply go_extract); rfl; rfl))
             | (((with_reducible apply go_bx_agg); rfl; rfl; (exact Nat.le_of_ble_eq_true rfl); rfl; rfl))
             | (((with_reducible apply go_alloc); rfl; rfl; rfl)))
           | ((with_reducible (show evOps _ _ _ _ _ _)); first
             | (with_reducible apply go_nil))
           | ((with_reducible (show evG _ _ _ _ _)); first
             | (with_reducible apply go_seq)
             | (with_reducible apply go_region)
             | (with_reducible apply go_ret))
           | (with_reducible apply go_kseq)
  all_goals first
    | exact finK_ret (fin_agf2 (cs := encG5 g) rfl rfl (by simp) rfl rfl rfl)
    | trace_state
end Go.Pv.Soil

open Go Go.Proofs Go.Pv
set_option maxHeartbeats 2000000
set_option linter.unusedSimpArgs false
set_option linter.unusedVariables false
/- Short copies of what stands in long texts, for seats that need no more of them. -/
namespace Go.Pv.Soil
def lv (l : List Int) (i : Nat) : Int := l.getD i 30000
theorem lv_get {l : List Int} {i : Nat} (h : i < l.length) : lv l i = l[i] := by simp [lv, List.getD_eq_getElem?_getD, h]
theorem OkGrid.rng {m : Grid} (h : OkGrid m) : ∀ i, i < m.levels.length → lv m.levels i ≠ 30000 → -20000 ≤ lv m.levels i ∧ lv m.levels i ≤ 20000 := by
  intro i hi hk
  rw [lv_get hi] at hk ⊢
  rcases h.lvl i hi with h | h
  · exact absurd h hk
  · simpa [lvOK] using h
def gridL (m : Grid) (l : List Int) : Grid := ⟨m.x, m.y, m.side, m.cols, m.rows, l⟩
theorem alike_gridL {m o : Grid} (h : alikeE m o = true) : o = gridL m o.levels := by
  have p3 : decide (m.x = o.x ∧ m.y = o.y ∧ m.side = o.side ∧ m.cols = o.cols ∧ m.rows = o.rows) = true := h
  have p3 := of_decide_eq_true p3
  obtain ⟨x, y, sd, c, r, l⟩ := o
  simp only at p3
  obtain ⟨q1, q2, q3, q4, q5⟩ := p3
  simp only [gridL, q1, q2, q3, q4, q5]
theorem alike_len {m o : Grid} (hm : OkGrid m) (ho : OkGrid o) (h : alikeE m o = true) : o.levels.length = m.levels.length := by
  have a := ho.len
  have b := hm.len
  have e := of_decide_eq_true h
  rw [← e.2.2.2.1, ← e.2.2.2.2] at a
  omega
end Go.Pv.Soil

open Go Go.Proofs Go.Pv
set_option maxHeartbeats 8000000
set_option maxRecDepth 100000
set_option linter.unusedSimpArgs false
set_option linter.unusedVariables false
namespace Go.Pv.Soil

theorem c122 (x : Int) : Contract Tryz.prog 32 [.int .i64 x] (.ret (.bool true)) := by
  refine contract_of mix Tryz.func32 rfl rfl (by rw [Tryz.ntmps32]; exact Nat.le_of_ble_eq_true rfl) ?_; rw [Tryz.results32, Tryz.ntmps32]; simp only [argsE, Nat.reduceAdd]
  repeat' first
           | (with_reducible apply go_op)
           | (with_reducible apply go_next)
           | ((with_reducible (show evOp _ _ _ _ _ _)); first
             | (((with_reducible apply go_mv_bool); rfl; rfl))
             | ((with_reducible apply go_as)))
           | ((with_reducible (show evOps _ _ _ _ _ _)); first
             | (with_reducible apply go_nil))
           | ((with_reducible (show evG _ _ _ _ _)); first
             | (with_reducible apply go_seq)
             | (with_reducible apply go_region)
             | (with_reducible apply go_ret))
           | (with_reducible apply go_kseq)
           | ((with_reducible apply end_bool); rfl)
           | (with_reducible rfl)
theorem c121 : Contract Tryz.prog 31 [] (.ret (.agg [.int .i64 (-20000), .int .i64 20000])) := by
  refine contract_of mix Tryz.func31 rfl rfl (by rw [Tryz.ntmps31]; exact Nat.le_of_ble_eq_true rfl) ?_; rw [Tryz.results31, Tryz.ntmps31]; simp only [argsE, Nat.reduceAdd]
  repeat' first
           | (with_reducible apply go_op)
           | (with_reducible apply go_next)
           | ((with_reducible (show evOp _ _ _ _ _ _)); first
             | (((with_reducible apply go_st_agg); rfl; rfl; rfl; rfl; rfl; rfl; rfl))
             | (((with_reducible apply go_bd2_int); rfl; rfl; rfl; rfl))
             | (((with_reducible apply go_alloc); rfl; rfl; rfl)))
           | ((with_reducible (show evOps _ _ _ _ _ _)); first
             | (with_reducible apply go_nil))
           | ((with_reducible (show evG _ _ _ _ _)); first
             | (with_reducible apply go_seq)
             | (with_reducible apply go_region)
             | (with_reducible apply go_ret))
           | (with_reducible apply go_kseq)
           | ((with_reducible apply end_agg); rfl; rfl)
  all_goals (rw [show Tryz.prog.cellsOf 69 = 2 by kernel_rfl]; rfl)
def dE (low high : Int) : Int := max 0 (min high 20000 - max low (-20000))
theorem c164 (a b : Int) (ha : -20000 ≤ a ∧ a ≤ 20000) (hb : -20000 ≤ b ∧ b ≤ 20000) : Contract Tryz.prog 50 [.agg [.int .i64 (-20000), .int .i64 20000], .int .i64 a, .int .i64 b] (.ret (.int .i64 (dE a b))) := by
  refine contract_of mix Tryz.func50 rfl rfl (by rw [Tryz.ntmps50]; exact Nat.le_of_ble_eq_true rfl) ?_; rw [Tryz.results50, Tryz.ntmps50]; simp only [argsE, Nat.reduceAdd]
  repeat' first
           | (with_reducible apply go_op)
           | (with_reducible apply go_next)
           | ((with_reducible (show evOp _ _ _ _ _ _)); first
             | (((with_reducible apply go_mv_int); rfl; rfl))
             | ((with_reducible apply go_as))
             | (((with_reducible apply go_load_own); rfl; rfl; rfl; rfl))
             | (((with_reducible apply go_fieldAddr_own); rfl; rfl; rfl))
             | (((with_reducible apply go_sub); rfl; rfl; rfl; omega))
             | ((with_reducible (show evOp _ (.call _) _ _ _ _)) ; first | ((with_reducible apply go_min); rfl; rfl; rfl) | ((with_reducible apply go_max); rfl; rfl; rfl))
             | (((with_reducible apply go_bx_agg); rfl; rfl; (exact Nat.le_of_ble_eq_true rfl); rfl; rfl)))
           | ((with_reducible (show evOps _ _ _ _ _ _)); first
             | (with_reducible apply go_nil))
           | ((with_reducible (show evG _ _ _ _ _)); first
             | (with_reducible apply go_seq)
             | (with_reducible apply go_region)
             | (with_reducible apply go_ret))
           | (with_reducible apply go_kseq)
           | ((with_reducible apply end_int); rfl)
  all_goals first | rfl | trace_state
theorem c163 (m : Grid) (hm : OkGrid m) (i : Nat) (hi : i < m.levels.length) : Contract Tryz.prog 49 [.agg (encGrid m), .int .i64 i] (.ret (.bool (!decide (lv m.levels i = 30000)))) := by
  have hs := hm.small
  have h174 : Contract Tryz.prog 60 [.int .i64 0, .int .i64 ((m.levels.length : Int) - 1), .sl [[.int .i64 i]]] (.ret (.bool true)) := by
    have := c174' 0 ((m.levels.length : Int) - 1) i
    rwa [decide_eq_true (by omega)] at this
  rw [lv_get hi]
  refine contract_of mix Tryz.func49 rfl rfl (by rw [Tryz.ntmps49]; exact Nat.le_of_ble_eq_true rfl) ?_; rw [Tryz.results49, Tryz.ntmps49]; simp only [argsE, Nat.reduceAdd]
  repeat' first
           | (with_reducible apply go_op)
           | (with_reducible apply go_next)
           | ((with_reducible (show evOp _ _ _ _ _ _)); first
             | ((with_reducible (show evOp _ (.move _) _ _ _ _)) ; first | ((with_reducible apply go_mv_int); rfl; rfl) | ((with_reducible apply go_mv_bool); rfl; rfl))
             | ((with_reducible apply go_as))
             | ((with_reducible (show evOp _ (.load _ _) _ _ _ _)) ; first | ((with_reducible apply go_load); rfl; rfl; rfl) | ((with_reducible apply go_load_own); rfl; rfl; rfl; rfl))
             | (((with_reducible apply go_fieldAddr_own); rfl; rfl; rfl))
             | (((with_reducible apply go_index_nat); rfl; rfl; (with_reducible rfl); (intro; rfl); rfl; omega; (intro hlt)))
             | ((with_reducible (show evOp _ (.binOp _ _ _ _ _) _ _ _ _)) ; first | ((with_reducible apply go_cmp); rfl; rfl; rfl; rfl) | ((with_reducible apply go_sub); rfl; rfl; rfl; omega))
             | ((with_reducible (show evOp _ (.call _) _ _ _ _)) ; first | ((with_reducible apply go_len); rfl; rfl) | ((with_reducible apply go_fn_bool); rfl; (exact h174); rfl))
             | (((with_reducible apply go_pick); rfl; rfl; rfl))
             | (((with_reducible apply go_bx_agg); rfl; rfl; (exact Nat.le_of_ble_eq_true rfl); rfl; rfl))
             | (((with_reducible apply go_bs1_int); rfl; rfl; rfl)))
           | ((with_reducible (show evOps _ _ _ _ _ _)); first
             | (with_reducible apply go_nil)
             | ((with_reducible apply go_run); rfl; rfl))
           | ((with_reducible (show evG _ _ _ _ _)); first
             | (with_reducible apply go_seq)
             | (with_reducible apply go_region)
             | (with_reducible apply go_ret))
           | (with_reducible apply go_kseq)
           | ((with_reducible apply end_bool); rfl)
           | (with_reducible rfl)
theorem c162 (m : Grid) : Contract Tryz.prog 48 [.agg (encGrid m)] (.ret (.agg [.int .i64 m.x, .int .i64 m.y, .int .i64 m.side, .int .i64 m.cols, .int .i64 m.rows])) := by
  refine contract_of mix Tryz.func48 rfl rfl (by rw [Tryz.ntmps48]; exact Nat.le_of_ble_eq_true rfl) ?_; rw [Tryz.results48, Tryz.ntmps48]; simp only [argsE, Nat.reduceAdd]
  repeat' first
           | (with_reducible apply go_op)
           | (with_reducible apply go_next)
           | ((with_reducible (show evOp _ _ _ _ _ _)); first
             | (((with_reducible apply go_load_own); rfl; rfl; rfl; rfl))
             | (((with_reducible apply go_fieldAddr_own); rfl; rfl; rfl))
             | (((with_reducible apply go_st_agg); rfl; rfl; rfl; rfl; rfl; rfl; rfl))
             | (((with_reducible apply go_build); rfl; rfl))
             | (((with_reducible apply go_bx_agg); rfl; rfl; (exact Nat.le_of_ble_eq_true rfl); rfl; rfl))
             | (((with_reducible apply go_alloc); rfl; rfl; rfl)))
           | ((with_reducible (show evOps _ _ _ _ _ _)); first
             | (with_reducible apply go_nil))
           | ((with_reducible (show evG _ _ _ _ _)); first
             | (with_reducible apply go_seq)
             | (with_reducible apply go_region)
             | (with_reducible apply go_ret))
           | (with_reducible apply go_kseq)
           | ((with_reducible apply end_agg); rfl; rfl)
  all_goals (rw [show Tryz.prog.cellsOf 87 = 5 by kernel_rfl]; rfl)
instance teq215 : TEq Tryz.prog 87 [.i, .i, .i, .i, .i] := ⟨by kernel_rfl⟩
theorem c119 (m a : Grid) (hl : m.levels.length < 1000000000000) (hla : a.levels.length < 1000000000000) (h1 : gridE m = 0) (h2 : gridE a = 0) (h3 : alikeE m a = true) : Contract Tryz.prog 29 [.agg (encGrid m), .agg (encGrid a)] (.ret (.int .i64 0)) := by
  have h144a := c144 m hl
  have h144b := c144 a hla
  rw [h1] at h144a
  rw [h2] at h144b
  have e := alike_gridL h3
  have h162 := c162 m
  have h162a : Contract Tryz.prog 48 [.agg (encGrid a)] (.ret (.agg [.int .i64 m.x, .int .i64 m.y, .int .i64 m.side, .int .i64 m.cols, .int .i64 m.rows])) := by
    have := c162 a
    rw [show a.x = m.x by rw [e]; rfl, show a.y = m.y by rw [e]; rfl, show a.side = m.side by rw [e]; rfl, show a.cols = m.cols by rw [e]; rfl, show a.rows = m.rows by rw [e]; rfl] at this
    exact this
  have h144 : ∀ i (hi : i < [m, a].length), Contract Tryz.prog 45 [.agg (encGrid [m, a][i])] (.ret (.int .i64 0)) := fun i hi => by
    match i, hi with
    | 0, _ => exact h144a
    | 1, _ => exact h144b
  have hL : [m, a].length = 2 := rfl
  refine contract_of mix Tryz.func29 rfl rfl (by rw [Tryz.ntmps29]; exact Nat.le_of_ble_eq_true rfl) ?_; rw [Tryz.results29, Tryz.ntmps29]; simp only [argsE, Nat.reduceAdd]
  repeat' first
           | (with_reducible apply go_op)
           | (with_reducible apply go_next)
           | ((with_reducible (show evOp _ _ _ _ _ _)); first
             | (((with_reducible apply go_mv_int); rfl; rfl))
             | ((with_reducible apply go_as))
             | (((with_reducible apply go_ld_agg); rfl; rfl; rfl; rfl))
             | (((with_reducible apply go_len_own); rfl; rfl; rfl))
             | (((with_reducible apply go_bx_agg); rfl; rfl; (exact Nat.le_of_ble_eq_true rfl); rfl; rfl))
             | (((with_reducible apply go_bs2_agg); rfl; rfl; rfl; rfl; rfl; rfl; rfl; rfl)))
           | ((with_reducible (show evOps _ _ _ _ _ _)); first
             | (with_reducible apply go_nil))
           | ((with_reducible (show evG _ _ _ _ _)); first
             | (with_reducible apply go_seq)
             | (with_reducible apply go_region)
             | (with_reducible apply go_block))
           | (with_reducible apply go_kseq)
  refine go_count 2 (fun i => ⟨[(12, .int .i64 i), (11, .int .i64 2), (10, .os 2 0 2), (2, .op 0 0 0), (3, .op 1 0 0)], [(2, ⟨6, true, [m, a].map encGrid⟩), (0, ⟨6, true, [encGrid m]⟩), (1, ⟨6, true, [encGrid a]⟩)], 32, 27⟩) (fun _ => True)
    (entails_eq (nx := 32) (k := 1) (ns := []) (ks := [12, 11, 10, 2, 3]) [(160, 2), (0, 0), (32, 1)] rfl (by simp) (by kernel_rfl)) trivial ?_
  intro i hi _
  by_cases hlt : i < [m, a].length
  · repeat' first
           | (with_reducible apply go_op)
           | (with_reducible apply go_next)
           | ((with_reducible (show evOp _ _ _ _ _ _)); first
             | (((with_reducible apply go_mv_int); rfl; rfl))
             | ((with_reducible apply go_as))
             | ((with_reducible (show evOp _ (.load _ _) _ _ _ _)) ; first | ((with_reducible apply go_load_om); rfl; rfl; rfl; rfl; rotate_left; assumption) | ((with_reducible apply go_ld_agg); rfl; rfl; rfl; rfl))
             | (((with_reducible apply go_index_om); rfl; rfl; rfl; (with_reducible rfl); rfl; rfl; omega; (intro hlt)))
             | ((with_reducible (show evOp _ (.binOp _ _ _ _ _) _ _ _ _)) ; first | ((with_reducible apply go_cmp); rfl; rfl; rfl; rfl) | ((with_reducible apply go_add); rfl; rfl; rfl; omega))
             | (((with_reducible apply go_fn_int); rfl; (exact h144 i hlt); rfl))
             | (((with_reducible apply go_st_agg); rfl; rfl; rfl; rfl; rfl; rfl; rfl))
             | (((with_reducible apply go_alloc); rfl; rfl; rfl)))
           | ((with_reducible (show evOps _ _ _ _ _ _)); first
             | (with_reducible apply go_nil)
             | ((with_reducible apply go_pre); rfl))
           | ((with_reducible (show evG _ _ _ _ _)); first
             | (with_reducible apply go_seq)
             | (with_reducible apply go_region)
             | ((with_reducible apply go_cond_f); rfl; rfl)
             | (((with_reducible apply go_cond); rfl) <;> (intro h; simp only [h]; try simp only [decide_eq_true_eq, decide_eq_false_iff_not, Bool.not_eq_true', Bool.not_eq_false', Bool.not_true, Bool.not_false] at h; try exact absurd trivial h))
             | ((with_reducible apply go_order); kernel_rfl; rfl)
             | (with_reducible apply go_skipc)
             | (with_reducible apply go_block)
             | (with_reducible apply go_exit))
           | (with_reducible apply go_kseq)
           | (with_reducible apply go_kblock)
           | (with_reducible apply go_kblock_exit)
           | (with_reducible apply go_kseq_exit)
    all_goals first
      | exact absurd hlt (by omega)
      | exact ⟨by omega, trivial, entails_eq (nx := 32) (k := 1) (ns := []) (ks := [12, 11, 10, 2, 3]) [(2, 2), (0, 0), (1, 1)] rfl (by simp) (by kernel_rfl)⟩
      | exact absurd rfl ‹_›
      | trace_state
  · repeat' first
           | (with_reducible apply go_op)
           | (with_reducible apply go_next)
           | ((with_reducible (show evOp _ _ _ _ _ _)); first
             | (((with_reducible apply go_mv_int); rfl; rfl))
             | ((with_reducible apply go_as))
             | ((with_reducible (show evOp _ (.load _ _) _ _ _ _)) ; first | ((with_reducible apply go_load_om); rfl; rfl; rfl; rfl; rotate_left; assumption) | ((with_reducible apply go_ld_agg); rfl; rfl; rfl; rfl))
             | (((with_reducible apply go_index_om); rfl; rfl; rfl; (with_reducible rfl); rfl; rfl; omega; (intro hlt)))
             | ((with_reducible (show evOp _ (.binOp _ _ _ _ _) _ _ _ _)) ; first | ((with_reducible apply go_cmp); rfl; rfl; rfl; rfl) | ((with_reducible apply go_neq_agg); rfl; rfl; rfl; rfl))
             | ((with_reducible (show evOp _ (.call _) _ _ _ _)) ; first | ((with_reducible apply go_fn_plain); rfl; (exact h162); rfl; (exact Nat.le_of_ble_eq_true rfl); rfl) | ((with_reducible apply go_fn_plain); rfl; (exact h162a); rfl; (exact Nat.le_of_ble_eq_true rfl); rfl))
             | (((with_reducible apply go_st_agg); rfl; rfl; rfl; rfl; rfl; rfl; rfl))
             | (((with_reducible apply go_alloc); rfl; rfl; rfl)))
           | ((with_reducible (show evOps _ _ _ _ _ _)); first
             | (with_reducible apply go_nil)
             | ((with_reducible apply go_pre); rfl)
             | (with_reducible apply go_pre_nil)
             | ((with_reducible apply go_suf); rfl)
             | (with_reducible apply go_suf_nil))
           | ((with_reducible (show evG _ _ _ _ _)); first
             | (with_reducible apply go_seq)
             | (with_reducible apply go_region)
             | (((with_reducible apply go_cond); rfl) <;> (intro h; simp only [h]; try simp only [decide_eq_true_eq, decide_eq_false_iff_not, Bool.not_eq_true', Bool.not_eq_false', Bool.not_true, Bool.not_false] at h; try exact absurd trivial h))
             | ((with_reducible apply go_order); kernel_rfl; rfl)
             | (with_reducible apply go_ret)
             | (with_reducible apply go_skipc)
             | (with_reducible apply go_block)
             | (with_reducible apply go_exit))
           | (with_reducible apply go_kseq)
           | (with_reducible apply go_ksuf)
           | (with_reducible apply go_kseq_ret)
           | (with_reducible apply go_kblock_exit)
           | (with_reducible apply go_kseq_exit)
           | ((with_reducible apply end_int); rfl)
           | (with_reducible rfl)
    all_goals first
      | exact absurd hlt (by omega)
      | rfl
      | (exfalso; clear e h144 h144a h144b h162 h162a; simp_all; done)
      | trace_state
end Go.Pv.Soil

open Go Go.Proofs Go.Pv
set_option maxHeartbeats 8000000
set_option maxRecDepth 100000
set_option linter.unusedSimpArgs false
set_option linter.unusedVariables false
namespace Go.Pv.Soil

def cutN (m a : Grid) : Nat → Int
  | 0 => 0
  | n + 1 => cutN m a n + if lv m.levels n ≠ 30000 ∧ lv a.levels n ≠ 30000 then m.side * m.side * dE (lv a.levels n) (lv m.levels n) else 0
def unkN (m a : Grid) : Nat → Int
  | 0 => 0
  | n + 1 => unkN m a n + if lv m.levels n ≠ 30000 ∧ lv a.levels n ≠ 30000 then 0 else 1
def fillN (m a : Grid) : Nat → Int
  | 0 => 0
  | n + 1 => fillN m a n + if lv m.levels n ≠ 30000 ∧ lv a.levels n ≠ 30000 then m.side * m.side * dE (lv m.levels n) (lv a.levels n) else 0
theorem dE_bd (a b : Int) : 0 ≤ dE a b ∧ dE a b ≤ 40000 := by unfold dE; omega
theorem area_bd {m : Grid} (hm : OkGrid m) (a b : Int) : (0 ≤ m.side * m.side ∧ m.side * m.side ≤ 100000000) ∧ 0 ≤ m.side * m.side * dE a b ∧ m.side * m.side * dE a b ≤ 4000000000000 := by
  have hs := hm.bds.2.1
  have h3 := nonneg_mul (a := m.side) (b := m.side) (m := 10000) (n := 10000) (by omega) (by omega)
  have h4 := nonneg_mul (a := m.side * m.side) (b := dE a b) (m := 100000000) (n := 40000) (by omega) (dE_bd a b)
  omega
theorem cutN_bd {m : Grid} (hm : OkGrid m) (a : Grid) : ∀ n : Nat, (0 ≤ cutN m a n ∧ cutN m a n ≤ 4000000000000 * (n : Int)) ∧ (0 ≤ fillN m a n ∧ fillN m a n ≤ 4000000000000 * (n : Int)) ∧ 0 ≤ unkN m a n ∧ unkN m a n ≤ n
  | 0 => by simp [cutN, fillN, unkN]
  | n + 1 => by
    have ih := cutN_bd hm a n
    have h1 := area_bd hm (lv a.levels n) (lv m.levels n)
    have h2 := area_bd hm (lv m.levels n) (lv a.levels n)
    simp only [cutN, fillN, unkN]
    split <;> omega

theorem c120 (m a : Grid) (hm : OkGrid m) (ha : OkGrid a) (hla : a.levels.length = m.levels.length) : Contract Tryz.prog 30 [.agg (encGrid m), .agg (encGrid a), .agg [.int .i64 (-20000), .int .i64 20000], .clo (.func 32) [] []] (.ret (.agg [.int .i64 (cutN m a m.levels.length), .int .i64 (fillN m a m.levels.length), .int .i64 (unkN m a m.levels.length)])) := by
  have hs := hm.small
  have har := (area_bd hm 0 0).1
  refine contract_of mix Tryz.func30 rfl rfl (by rw [Tryz.ntmps30]; exact Nat.le_of_ble_eq_true rfl) ?_; rw [Tryz.results30, Tryz.ntmps30]; simp only [argsE, Nat.reduceAdd]
  repeat' first
           | (with_reducible apply go_op)
           | (with_reducible apply go_next)
           | ((with_reducible (show evOp _ _ _ _ _ _)); first
             | (((with_reducible apply go_mv_int); rfl; rfl))
             | ((with_reducible apply go_as))
             | (((with_reducible apply go_load_own); rfl; rfl; rfl; rfl))
             | (((with_reducible apply go_fieldAddr_own); rfl; rfl; rfl))
             | (((with_reducible apply go_mul); rfl; rfl; rfl; omega))
             | (((with_reducible apply go_len); rfl; rfl))
             | (((with_reducible apply go_bx_agg); rfl; rfl; (exact Nat.le_of_ble_eq_true rfl); rfl; rfl))
             | (((with_reducible apply go_alloc); rfl; rfl; rfl)))
           | ((with_reducible (show evOps _ _ _ _ _ _)); first
             | (with_reducible apply go_nil))
           | ((with_reducible (show evG _ _ _ _ _)); first
             | (with_reducible apply go_seq)
             | (with_reducible apply go_region)
             | (with_reducible apply go_block))
           | (with_reducible apply go_kseq)
  refine go_count m.levels.length (fun i => ⟨[(22, .int .i64 i), (21, .int .i64 m.levels.length), (10, .int .i64 (m.side * m.side)), (9, .op 4 0 0), (8, .op 3 0 0), (6, .op 2 0 0), (4, .op 0 0 0), (5, .op 1 0 0), (3, .clo (.func 32) [] [])], [(0, ⟨6, true, [encGrid m]⟩), (1, ⟨6, true, [encGrid a]⟩), (2, ⟨2, true, [[.int .i64 (-20000), .int .i64 20000]]⟩), (3, ⟨3, true, [[.int .i64 0, .int .i64 0, .int .i64 0]]⟩), (4, ⟨3, true, [[.int .i64 (cutN m a i), .int .i64 (fillN m a i), .int .i64 (unkN m a i)]]⟩)], 32, 77⟩) (fun _ => True)
    (entails_eq (nx := 32) (k := 1) (ns := []) (ks := [22, 21, 10, 9, 8, 6, 4, 5, 3]) [(0, 0), (32, 1), (64, 2), (96, 3), (128, 4)] rfl (by simp) (by kernel_rfl)) trivial ?_
  intro i hi _
  by_cases hlt : i < m.levels.length
  · have hlia : i < a.levels.length := by omega
    have em := lv_get hlt
    have ea := lv_get hlia
    have rm := hm.rng i hlt
    have ra := ha.rng i hlia
    have hbd := cutN_bd hm a i
    have b1 := area_bd hm (lv a.levels i) (lv m.levels i)
    have b2 := area_bd hm (lv m.levels i) (lv a.levels i)
    have c1 := c163 m hm i hlt
    have c2 := c163 a ha i hlia
    have n1 : cutN m a (i + 1) = cutN m a i + if lv m.levels i ≠ 30000 ∧ lv a.levels i ≠ 30000 then m.side * m.side * dE (lv a.levels i) (lv m.levels i) else 0 := rfl
    have n2 : fillN m a (i + 1) = fillN m a i + if lv m.levels i ≠ 30000 ∧ lv a.levels i ≠ 30000 then m.side * m.side * dE (lv m.levels i) (lv a.levels i) else 0 := rfl
    have n3 : unkN m a (i + 1) = unkN m a i + if lv m.levels i ≠ 30000 ∧ lv a.levels i ≠ 30000 then 0 else 1 := rfl
    by_cases hk : lv m.levels i ≠ 30000 ∧ lv a.levels i ≠ 30000
    · rw [if_pos hk] at n1 n2 n3
      rw [decide_eq_false hk.1] at c1
      rw [decide_eq_false hk.2] at c2
      have rm' := rm hk.1
      have ra' := ra hk.2
      rw [em] at rm'
      rw [ea] at ra'
      rw [em, ea] at n1 n2 b1 b2
      have p1 := c164 a.levels[i] m.levels[i] ra' rm'
      have p2 := c164 m.levels[i] a.levels[i] rm' ra'
      repeat' first
           | (with_reducible apply go_op)
           | (with_reducible apply go_next)
           | ((with_reducible (show evOp _ _ _ _ _ _)); first
             | ((with_reducible (show evOp _ (.move _) _ _ _ _)) ; first | ((with_reducible apply go_mv_int); rfl; rfl) | ((with_reducible apply go_mv_clo); rfl; rfl))
             | ((with_reducible apply go_as))
             | ((with_reducible (show evOp _ (.load _ _) _ _ _ _)) ; first | ((with_reducible apply go_ld_agg); rfl; rfl; rfl; rfl) | ((with_reducible apply go_load); rfl; rfl; rfl) | ((with_reducible apply go_load_own); rfl; rfl; rfl; rfl))
             | (((with_reducible apply go_fieldAddr_own); rfl; rfl; rfl))
             | (((with_reducible apply go_index_nat); rfl; rfl; (with_reducible rfl); (intro; rfl); rfl; omega; (intro hlt)))
             | (((with_reducible apply go_cmp); rfl; rfl; rfl; rfl))
             | (((with_reducible apply go_st_agg); rfl; rfl; rfl; rfl; rfl; rfl; rfl)))
           | ((with_reducible (show evOps _ _ _ _ _ _)); first
             | (with_reducible apply go_nil)
             | ((with_reducible apply go_pre); rfl)
             | (with_reducible apply go_pre_nil)
             | ((with_reducible apply go_suf); rfl)
             | (with_reducible apply go_suf_nil))
           | ((with_reducible (show evG _ _ _ _ _)); first
             | (with_reducible apply go_seq)
             | (with_reducible apply go_region)
             | (((with_reducible apply go_cond); rfl) <;> (intro h; simp only [h]; try simp only [decide_eq_true_eq, decide_eq_false_iff_not, Bool.not_eq_true', Bool.not_eq_false', Bool.not_true, Bool.not_false] at h; try exact absurd trivial h))
             | ((with_reducible apply go_order); kernel_rfl; rfl)
             | (with_reducible apply go_ret)
             | (with_reducible apply go_skipc)
             | (with_reducible apply go_block)
             | (with_reducible apply go_exit))
           | (with_reducible apply go_kseq)
           | (with_reducible apply go_ksuf)
           | (with_reducible apply go_kblock_exit)
           | (with_reducible apply go_kseq_exit)
           | ((with_reducible apply end_agg); rfl; rfl)
      all_goals try exact absurd hlt (by omega)
      refine go_clo_bool rfl rfl (fun _ _ => rfl) (c122 i) rfl ?_
      repeat' first
           | (with_reducible apply go_op)
           | (with_reducible apply go_next)
           | ((with_reducible (show evOp _ _ _ _ _ _)); first
             | ((with_reducible (show evOp _ (.move _) _ _ _ _)) ; first | ((with_reducible apply go_mv_int); rfl; rfl) | ((with_reducible apply go_mv_bool); rfl; rfl))
             | ((with_reducible apply go_as))
             | ((with_reducible (show evOp _ (.load _ _) _ _ _ _)) ; first | ((with_reducible apply go_ld_agg); rfl; rfl; rfl; rfl) | ((with_reducible apply go_load_own); rfl; rfl; rfl; rfl))
             | (((with_reducible apply go_fieldAddr_own); rfl; rfl; rfl))
             | ((with_reducible (show evOp _ (.binOp _ _ _ _ _) _ _ _ _)) ; first | ((with_reducible apply go_add); rfl; rfl; rfl; omega) | ((with_reducible apply go_mul); rfl; rfl; rfl; omega))
             | ((with_reducible (show evOp _ (.call _) _ _ _ _)) ; first | ((with_reducible apply go_fn_bool); rfl; (exact c1); rfl) | ((with_reducible apply go_fn_bool); rfl; (exact c2); rfl) | ((with_reducible apply go_fn_int); rfl; (exact p1); rfl) | ((with_reducible apply go_fn_int); rfl; (exact p2); rfl))
             | (((with_reducible apply go_store); rfl; rfl; rfl; rfl; rfl; rfl; (exact Nat.le_of_ble_eq_true rfl); (first | exact Nat.le_of_ble_eq_true rfl | omega); rfl; rfl))
             | (((with_reducible apply go_not); rfl; rfl))
             | (((with_reducible apply go_pick); rfl; rfl; rfl)))
           | ((with_reducible (show evOps _ _ _ _ _ _)); first
             | (with_reducible apply go_nil)
             | ((with_reducible apply go_run); rfl; rfl)
             | ((with_reducible apply go_pre); rfl)
             | ((with_reducible apply go_pre_stop); rfl)
             | ((with_reducible apply go_suf); rfl)
             | ((with_reducible apply go_suf_stop); rfl))
           | ((with_reducible (show evG _ _ _ _ _)); first
             | (with_reducible apply go_seq)
             | (with_reducible apply go_region)
             | ((with_reducible apply go_cond_f); rfl; rfl)
             | ((with_reducible apply go_order); kernel_rfl; rfl))
           | (with_reducible apply go_kseq)
           | (with_reducible apply go_ksuf)
           | (with_reducible apply go_kblock)
      refine ⟨‹i < m.levels.length›, trivial, ?_⟩
      rw [n1, n2, n3, Int.add_zero]
      exact entails_eq (nx := 32) (k := 1) (ns := []) (ks := [22, 21, 10, 9, 8, 6, 4, 5, 3]) [(0, 0), (1, 1), (2, 2), (3, 3), (4, 4)] rfl (by simp) (by kernel_rfl)
    · rw [if_neg hk] at n1 n2 n3
      rw [Int.add_zero] at n1 n2
      by_cases hkm : lv m.levels i = 30000
      · rw [decide_eq_true hkm] at c1
        repeat' first
           | (with_reducible apply go_op)
           | (with_reducible apply go_next)
           | ((with_reducible (show evOp _ _ _ _ _ _)); first
             | ((with_reducible (show evOp _ (.move _) _ _ _ _)) ; first | ((with_reducible apply go_mv_int); rfl; rfl) | ((with_reducible apply go_mv_clo); rfl; rfl))
             | ((with_reducible apply go_as))
             | ((with_reducible (show evOp _ (.load _ _) _ _ _ _)) ; first | ((with_reducible apply go_ld_agg); rfl; rfl; rfl; rfl) | ((with_reducible apply go_load); rfl; rfl; rfl) | ((with_reducible apply go_load_own); rfl; rfl; rfl; rfl))
             | (((with_reducible apply go_fieldAddr_own); rfl; rfl; rfl))
             | (((with_reducible apply go_index_nat); rfl; rfl; (with_reducible rfl); (intro; rfl); rfl; omega; (intro hlt)))
             | (((with_reducible apply go_cmp); rfl; rfl; rfl; rfl))
             | (((with_reducible apply go_st_agg); rfl; rfl; rfl; rfl; rfl; rfl; rfl)))
           | ((with_reducible (show evOps _ _ _ _ _ _)); first
             | (with_reducible apply go_nil)
             | ((with_reducible apply go_pre); rfl)
             | (with_reducible apply go_pre_nil)
             | ((with_reducible apply go_suf); rfl)
             | (with_reducible apply go_suf_nil))
           | ((with_reducible (show evG _ _ _ _ _)); first
             | (with_reducible apply go_seq)
             | (with_reducible apply go_region)
             | (((with_reducible apply go_cond); rfl) <;> (intro h; simp only [h]; try simp only [decide_eq_true_eq, decide_eq_false_iff_not, Bool.not_eq_true', Bool.not_eq_false', Bool.not_true, Bool.not_false] at h; try exact absurd trivial h))
             | ((with_reducible apply go_order); kernel_rfl; rfl)
             | (with_reducible apply go_ret)
             | (with_reducible apply go_skipc)
             | (with_reducible apply go_block)
             | (with_reducible apply go_exit))
           | (with_reducible apply go_kseq)
           | (with_reducible apply go_ksuf)
           | (with_reducible apply go_kblock_exit)
           | (with_reducible apply go_kseq_exit)
           | ((with_reducible apply end_agg); rfl; rfl)
        all_goals try exact absurd hlt (by omega)
        refine go_clo_bool rfl rfl (fun _ _ => rfl) (c122 i) rfl ?_
        repeat' first
           | (with_reducible apply go_op)
           | (with_reducible apply go_next)
           | ((with_reducible (show evOp _ _ _ _ _ _)); first
             | ((with_reducible (show evOp _ (.move _) _ _ _ _)) ; first | ((with_reducible apply go_mv_int); rfl; rfl) | ((with_reducible apply go_mv_bool); rfl; rfl))
             | ((with_reducible apply go_as))
             | ((with_reducible (show evOp _ (.load _ _) _ _ _ _)) ; first | ((with_reducible apply go_ld_agg); rfl; rfl; rfl; rfl) | ((with_reducible apply go_load_own); rfl; rfl; rfl; rfl))
             | (((with_reducible apply go_fieldAddr_own); rfl; rfl; rfl))
             | (((with_reducible apply go_add); rfl; rfl; rfl; omega))
             | (((with_reducible apply go_fn_bool); rfl; (exact c1); rfl))
             | (((with_reducible apply go_store); rfl; rfl; rfl; rfl; rfl; rfl; (exact Nat.le_of_ble_eq_true rfl); (first | exact Nat.le_of_ble_eq_true rfl | omega); rfl; rfl))
             | (((with_reducible apply go_not); rfl; rfl))
             | (((with_reducible apply go_pick); rfl; rfl; rfl)))
           | ((with_reducible (show evOps _ _ _ _ _ _)); first
             | (with_reducible apply go_nil)
             | ((with_reducible apply go_pass); rfl; rfl; rfl))
           | ((with_reducible (show evG _ _ _ _ _)); first
             | (with_reducible apply go_seq)
             | (with_reducible apply go_region)
             | ((with_reducible apply go_cond_t); rfl; rfl)
             | ((with_reducible apply go_cond_f); rfl; rfl))
           | (with_reducible apply go_kseq)
           | (with_reducible apply go_kblock)
        refine ⟨‹i < m.levels.length›, trivial, ?_⟩
        rw [n1, n2, n3]
        exact entails_eq (nx := 32) (k := 1) (ns := []) (ks := [22, 21, 10, 9, 8, 6, 4, 5, 3]) [(0, 0), (1, 1), (2, 2), (3, 3), (4, 4)] rfl (by simp) (by kernel_rfl)
      · have hka : lv a.levels i = 30000 := by omega
        rw [decide_eq_false hkm] at c1
        rw [decide_eq_true hka] at c2
        repeat' first
           | (with_reducible apply go_op)
           | (with_reducible apply go_next)
           | ((with_reducible (show evOp _ _ _ _ _ _)); first
             | ((with_reducible (show evOp _ (.move _) _ _ _ _)) ; first | ((with_reducible apply go_mv_int); rfl; rfl) | ((with_reducible apply go_mv_clo); rfl; rfl))
             | ((with_reducible apply go_as))
             | ((with_reducible (show evOp _ (.load _ _) _ _ _ _)) ; first | ((with_reducible apply go_ld_agg); rfl; rfl; rfl; rfl) | ((with_reducible apply go_load); rfl; rfl; rfl) | ((with_reducible apply go_load_own); rfl; rfl; rfl; rfl))
             | (((with_reducible apply go_fieldAddr_own); rfl; rfl; rfl))
             | (((with_reducible apply go_index_nat); rfl; rfl; (with_reducible rfl); (intro; rfl); rfl; omega; (intro hlt)))
             | (((with_reducible apply go_cmp); rfl; rfl; rfl; rfl))
             | (((with_reducible apply go_st_agg); rfl; rfl; rfl; rfl; rfl; rfl; rfl)))
           | ((with_reducible (show evOps _ _ _ _ _ _)); first
             | (with_reducible apply go_nil)
             | ((with_reducible apply go_pre); rfl)
             | (with_reducible apply go_pre_nil)
             | ((with_reducible apply go_suf); rfl)
             | (with_reducible apply go_suf_nil))
           | ((with_reducible (show evG _ _ _ _ _)); first
             | (with_reducible apply go_seq)
             | (with_reducible apply go_region)
             | (((with_reducible apply go_cond); rfl) <;> (intro h; simp only [h]; try simp only [decide_eq_true_eq, decide_eq_false_iff_not, Bool.not_eq_true', Bool.not_eq_false', Bool.not_true, Bool.not_false] at h; try exact absurd trivial h))
             | ((with_reducible apply go_order); kernel_rfl; rfl)
             | (with_reducible apply go_ret)
             | (with_reducible apply go_skipc)
             | (with_reducible apply go_block)
             | (with_reducible apply go_exit))
           | (with_reducible apply go_kseq)
           | (with_reducible apply go_ksuf)
           | (with_reducible apply go_kblock_exit)
           | (with_reducible apply go_kseq_exit)
           | ((with_reducible apply end_agg); rfl; rfl)
        all_goals try exact absurd hlt (by omega)
        refine go_clo_bool rfl rfl (fun _ _ => rfl) (c122 i) rfl ?_
        repeat' first
           | (with_reducible apply go_op)
           | (with_reducible apply go_next)
           | ((with_reducible (show evOp _ _ _ _ _ _)); first
             | ((with_reducible (show evOp _ (.move _) _ _ _ _)) ; first | ((with_reducible apply go_mv_int); rfl; rfl) | ((with_reducible apply go_mv_bool); rfl; rfl))
             | ((with_reducible apply go_as))
             | ((with_reducible (show evOp _ (.load _ _) _ _ _ _)) ; first | ((with_reducible apply go_ld_agg); rfl; rfl; rfl; rfl) | ((with_reducible apply go_load_own); rfl; rfl; rfl; rfl))
             | (((with_reducible apply go_fieldAddr_own); rfl; rfl; rfl))
             | (((with_reducible apply go_add); rfl; rfl; rfl; omega))
             | ((with_reducible (show evOp _ (.call _) _ _ _ _)) ; first | ((with_reducible apply go_fn_bool); rfl; (exact c1); rfl) | ((with_reducible apply go_fn_bool); rfl; (exact c2); rfl))
             | (((with_reducible apply go_store); rfl; rfl; rfl; rfl; rfl; rfl; (exact Nat.le_of_ble_eq_true rfl); (first | exact Nat.le_of_ble_eq_true rfl | omega); rfl; rfl))
             | (((with_reducible apply go_not); rfl; rfl))
             | (((with_reducible apply go_pick); rfl; rfl; rfl)))
           | ((with_reducible (show evOps _ _ _ _ _ _)); first
             | (with_reducible apply go_nil)
             | ((with_reducible apply go_run); rfl; rfl))
           | ((with_reducible (show evG _ _ _ _ _)); first
             | (with_reducible apply go_seq)
             | (with_reducible apply go_region)
             | ((with_reducible apply go_cond_t); rfl; rfl)
             | ((with_reducible apply go_cond_f); rfl; rfl))
           | (with_reducible apply go_kseq)
           | (with_reducible apply go_kblock)
        refine ⟨‹i < m.levels.length›, trivial, ?_⟩
        rw [n1, n2, n3]
        exact entails_eq (nx := 32) (k := 1) (ns := []) (ks := [22, 21, 10, 9, 8, 6, 4, 5, 3]) [(0, 0), (1, 1), (2, 2), (3, 3), (4, 4)] rfl (by simp) (by kernel_rfl)
  · have e : i = m.levels.length := by omega
    subst e
    repeat' first
           | (with_reducible apply go_op)
           | (with_reducible apply go_next)
           | ((with_reducible (show evOp _ _ _ _ _ _)); first
             | ((with_reducible (show evOp _ (.move _) _ _ _ _)) ; first | ((with_reducible apply go_mv_int); rfl; rfl) | ((with_reducible apply go_mv_clo); rfl; rfl))
             | ((with_reducible apply go_as))
             | ((with_reducible (show evOp _ (.load _ _) _ _ _ _)) ; first | ((with_reducible apply go_ld_agg); rfl; rfl; rfl; rfl) | ((with_reducible apply go_load); rfl; rfl; rfl) | ((with_reducible apply go_load_own); rfl; rfl; rfl; rfl))
             | (((with_reducible apply go_fieldAddr_own); rfl; rfl; rfl))
             | (((with_reducible apply go_index_nat); rfl; rfl; (with_reducible rfl); (intro; rfl); rfl; omega; (intro hlt)))
             | (((with_reducible apply go_cmp); rfl; rfl; rfl; rfl))
             | (((with_reducible apply go_st_agg); rfl; rfl; rfl; rfl; rfl; rfl; rfl)))
           | ((with_reducible (show evOps _ _ _ _ _ _)); first
             | (with_reducible apply go_nil)
             | ((with_reducible apply go_pre); rfl)
             | (with_reducible apply go_pre_nil)
             | ((with_reducible apply go_suf); rfl)
             | (with_reducible apply go_suf_nil))
           | ((with_reducible (show evG _ _ _ _ _)); first
             | (with_reducible apply go_seq)
             | (with_reducible apply go_region)
             | (((with_reducible apply go_cond); rfl) <;> (intro h; simp only [h]; try simp only [decide_eq_true_eq, decide_eq_false_iff_not, Bool.not_eq_true', Bool.not_eq_false', Bool.not_true, Bool.not_false] at h; try exact absurd trivial h))
             | ((with_reducible apply go_order); kernel_rfl; rfl)
             | (with_reducible apply go_ret)
             | (with_reducible apply go_skipc)
             | (with_reducible apply go_block)
             | (with_reducible apply go_exit))
           | (with_reducible apply go_kseq)
           | (with_reducible apply go_ksuf)
           | (with_reducible apply go_kblock_exit)
           | (with_reducible apply go_kseq_exit)
           | ((with_reducible apply end_agg); rfl; rfl)
    all_goals first
      | exact absurd hlt (by omega)
      | (rw [show Tryz.prog.cellsOf 49 = 3 by kernel_rfl]; rfl)
      | trace_state

theorem c68 (m a : Grid) (h1 : gridE m = 0) (h2 : gridE a = 0) (h3 : alikeE m a = true) : Contract Tryz.prog 16 [.agg (encGrid m), .agg (encGrid a)] (.ret (.tup [.agg [.int .i64 (cutN m a m.levels.length), .int .i64 (fillN m a m.levels.length), .int .i64 (unkN m a m.levels.length)], .int .i64 0])) := by
  have hm := okGrid h1
  have ha := okGrid h2
  have hla := alike_len hm ha h3
  have hs := hm.small
  have h119 := c119 m a (by omega) (by omega) h1 h2 h3
  have h120 := c120 m a hm ha hla
  generalize cutN m a m.levels.length = x at *
  generalize fillN m a m.levels.length = y at *
  generalize unkN m a m.levels.length = z at *
  refine contract_of mix Tryz.func16 rfl rfl (by rw [Tryz.ntmps16]; exact Nat.le_of_ble_eq_true rfl) ?_; rw [Tryz.results16, Tryz.ntmps16]; simp only [argsE, Nat.reduceAdd]
  repeat' first
           | (with_reducible apply go_op)
           | (with_reducible apply go_next)
           | ((with_reducible (show evOp _ _ _ _ _ _)); first
             | (((with_reducible apply go_mv_int); rfl; rfl))
             | ((with_reducible apply go_as))
             | (((with_reducible apply go_ld_agg); rfl; rfl; rfl; rfl))
             | (((with_reducible apply go_cmp); rfl; rfl; rfl; rfl))
             | ((with_reducible (show evOp _ (.call _) _ _ _ _)) ; first | ((with_reducible apply go_fn_int); rfl; (exact h119); rfl) | ((with_reducible apply go_fn_plain); rfl; (exact c121); rfl; (exact Nat.le_of_ble_eq_true rfl); rfl) | ((with_reducible apply go_fn_plain); rfl; (exact h120); rfl; (exact Nat.le_of_ble_eq_true rfl); rfl))
             | (((with_reducible apply go_st_agg); rfl; rfl; rfl; rfl; rfl; rfl; rfl))
             | (((with_reducible apply go_bx_agg); rfl; rfl; (exact Nat.le_of_ble_eq_true rfl); rfl; rfl))
             | (((with_reducible apply go_alloc); rfl; rfl; rfl)))
           | ((with_reducible (show evOps _ _ _ _ _ _)); first
             | (with_reducible apply go_nil)
             | ((with_reducible apply go_pre); rfl)
             | ((with_reducible apply go_pre_stop); rfl)
             | ((with_reducible apply go_suf); rfl)
             | ((with_reducible apply go_suf_stop); rfl))
           | ((with_reducible (show evG _ _ _ _ _)); first
             | (with_reducible apply go_seq)
             | (with_reducible apply go_region)
             | ((with_reducible apply go_cond_f); rfl; rfl)
             | ((with_reducible apply go_order); kernel_rfl; rfl)
             | (with_reducible apply go_ret)
             | (with_reducible apply go_skipc))
           | (with_reducible apply go_kseq)
           | (with_reducible apply go_ksuf)
           | ((with_reducible apply end_t2); rfl; rfl; rfl; rfl)
  all_goals first
    | exact absurd rfl ‹_›
    | (rw [show Tryz.prog.cellsOf 49 = 3 by kernel_rfl]; rfl)
    | rfl
    | trace_state
end Go.Pv.Soil

open Go Go.Proofs Go.Pv
set_option maxHeartbeats 4000000
set_option maxRecDepth 100000
set_option linter.unusedVariables false
set_option linter.unusedSimpArgs false
namespace Go.Pv.Soil
def sumN (f : Nat → Int) : Nat → Int
  | 0 => 0
  | n + 1 => sumN f n + f n
theorem xprod_bd {s x : Int} (hs : 100 ≤ s ∧ s ≤ 10000) (hx : 0 ≤ x ∧ x ≤ 40000) : (0 ≤ s * s ∧ s * s ≤ 100000000) ∧ 0 ≤ s * s * x ∧ s * s * x ≤ 4000000000000 := by
  have h1 := nonneg_mul (a := s) (b := s) (m := 10000) (n := 10000) (by omega) (by omega)
  have h2 := nonneg_mul (a := s * s) (b := x) (m := 100000000) (n := 40000) (by omega) hx
  omega
def needW (g : Grid) (v : Int) (k : Nat) : Int := if lv g.levels k ≠ 30000 then g.side * g.side * max 0 (lv g.levels k - v) else 0
theorem h_Needed1 (g : Grid) (h : OkGrid g) (v : Int) (hv : -20000 ≤ v ∧ v ≤ 20000) (k : Nat) (hk : k < g.levels.length) (s : Int) (hs : 0 ≤ s ∧ s ≤ 5000000000000000) :
    ContractM Tryz.prog 25 [.int .i64 k, .int .i64 v, .ptr (encGrid g), .op 0 0 0] ⟨1, true, [[.int .i64 s]]⟩ (.tup []) ⟨1, true, [[.int .i64 (s + needW g v k)]]⟩ := by
  have rm := h.rng k hk
  have hsm := h.small
  have em := lv_get hk
  have hb := h.bds
  unfold needW
  rw [em] at rm ⊢
  by_cases hu : g.levels[k] = 30000
  · rw [if_neg (by omega), Int.add_zero]
    refine contractM_of mix Tryz.func25 rfl rfl (by rw [Tryz.ntmps25]; exact Nat.le_of_ble_eq_true rfl) (by kernel_rfl) (rfl) rfl ?_; rw [Tryz.results25, Tryz.ntmps25]; simp only [argsE, Nat.reduceAdd]
    repeat' first
           | (with_reducible apply go_op)
           | (with_reducible apply go_next)
           | ((with_reducible (show evOp _ _ _ _ _ _)); first
             | (((with_reducible apply go_mv_int); rfl; rfl))
             | ((with_reducible (show evOp _ (.load _ _) _ _ _ _)) ; first | ((with_reducible apply go_ld_one); rfl; rfl; rfl) | ((with_reducible apply go_load); rfl; rfl; rfl))
             | (((with_reducible apply go_fieldAddr); rfl; rfl))
             | (((with_reducible apply go_index_nat); rfl; rfl; (with_reducible rfl); (intro; rfl); rfl; omega; (intro hlt)))
             | ((with_reducible (show evOp _ (.binOp _ _ _ _ _) _ _ _ _)) ; first | ((with_reducible apply go_cmp); rfl; rfl; rfl; rfl) | ((with_reducible apply go_add); rfl; rfl; rfl; omega) | ((with_reducible apply go_sub); rfl; rfl; rfl; omega) | ((with_reducible apply go_mul); rfl; rfl; rfl; omega))
             | (((with_reducible apply go_max); rfl; rfl; rfl))
             | (((with_reducible apply go_st_int); rfl; rfl; rfl)))
           | ((with_reducible (show evOps _ _ _ _ _ _)); first
             | (with_reducible apply go_nil)
             | ((with_reducible apply go_pre); rfl)
             | ((with_reducible apply go_pre_stop); rfl)
             | ((with_reducible apply go_suf); rfl)
             | ((with_reducible apply go_suf_stop); rfl))
           | ((with_reducible (show evG _ _ _ _ _)); first
             | (with_reducible apply go_seq)
             | (with_reducible apply go_region)
             | (((with_reducible apply go_cond); rfl) <;> (intro h; simp only [h]; try simp only [decide_eq_true_eq, decide_eq_false_iff_not, Bool.not_eq_true', Bool.not_eq_false', Bool.not_true, Bool.not_false] at h; try exact absurd trivial h))
             | ((with_reducible apply go_order); kernel_rfl; rfl)
             | (with_reducible apply go_skipc))
           | (with_reducible apply go_kseq)
           | (with_reducible apply go_ksuf)
    all_goals first
      | exact ⟨[], rfl, rfl, rfl⟩
      | (exfalso; omega)
      | trace_state
  · have hp := xprod_bd (s := g.side) (x := max 0 (g.levels[k] - v)) (by omega) (by omega)
    rw [if_pos hu]
    refine contractM_of mix Tryz.func25 rfl rfl (by rw [Tryz.ntmps25]; exact Nat.le_of_ble_eq_true rfl) (by kernel_rfl) (rfl) rfl ?_; rw [Tryz.results25, Tryz.ntmps25]; simp only [argsE, Nat.reduceAdd]
    repeat' first
           | (with_reducible apply go_op)
           | (with_reducible apply go_next)
           | ((with_reducible (show evOp _ _ _ _ _ _)); first
             | (((with_reducible apply go_mv_int); rfl; rfl))
             | ((with_reducible (show evOp _ (.load _ _) _ _ _ _)) ; first | ((with_reducible apply go_ld_one); rfl; rfl; rfl) | ((with_reducible apply go_load); rfl; rfl; rfl))
             | (((with_reducible apply go_fieldAddr); rfl; rfl))
             | (((with_reducible apply go_index_nat); rfl; rfl; (with_reducible rfl); (intro; rfl); rfl; omega; (intro hlt)))
             | ((with_reducible (show evOp _ (.binOp _ _ _ _ _) _ _ _ _)) ; first | ((with_reducible apply go_cmp); rfl; rfl; rfl; rfl) | ((with_reducible apply go_add); rfl; rfl; rfl; omega) | ((with_reducible apply go_sub); rfl; rfl; rfl; omega) | ((with_reducible apply go_mul); rfl; rfl; rfl; omega))
             | (((with_reducible apply go_max); rfl; rfl; rfl))
             | (((with_reducible apply go_st_int); rfl; rfl; rfl)))
           | ((with_reducible (show evOps _ _ _ _ _ _)); first
             | (with_reducible apply go_nil)
             | ((with_reducible apply go_pre); rfl)
             | ((with_reducible apply go_pre_stop); rfl)
             | ((with_reducible apply go_suf); rfl)
             | ((with_reducible apply go_suf_stop); rfl))
           | ((with_reducible (show evG _ _ _ _ _)); first
             | (with_reducible apply go_seq)
             | (with_reducible apply go_region)
             | (((with_reducible apply go_cond); rfl) <;> (intro h; simp only [h]; try simp only [decide_eq_true_eq, decide_eq_false_iff_not, Bool.not_eq_true', Bool.not_eq_false', Bool.not_true, Bool.not_false] at h; try exact absurd trivial h))
             | ((with_reducible apply go_order); kernel_rfl; rfl)
             | (with_reducible apply go_skipc))
           | (with_reducible apply go_kseq)
           | (with_reducible apply go_ksuf)
    all_goals first
      | exact ⟨[], rfl, rfl, rfl⟩
      | (exfalso; omega)
      | trace_state
/-- What is added for the cells with a design level. -/
noncomputable def dsum (c : Chan) (g : Grid) (w : Nat → Int) : Nat → Int := sumN fun k => if gB c g k = true then w k else 0
theorem dsum_bd {c : Chan} {g : Grid} {w : Nat → Int} : ∀ n, n ≤ g.levels.length → (∀ k, k < g.levels.length → gB c g k = true → 0 ≤ w k ∧ w k ≤ 4000000000000) → 0 ≤ dsum c g w n ∧ dsum c g w n ≤ 4000000000000 * (n : Int)
  | 0, _, _ => by simp [dsum, sumN]
  | n + 1, hn, hw => by
    have ih := dsum_bd (c := c) (g := g) (w := w) n (by omega) hw
    have e : dsum c g w (n + 1) = dsum c g w n + if gB c g n = true then w n else 0 := rfl
    rw [e]
    split
    · rename_i hB
      have := hw n (by omega) hB
      omega
    · omega
theorem h_designed2 (c : Chan) (hc : OkChan c) (g : Grid) (h0 : gridE g = 0) (f : FuncId) (r1 : List D) (w : Nat → Int) (hw : ∀ k, k < g.levels.length → gB c g k = true → 0 ≤ w k ∧ w k ≤ 4000000000000)
    (hf : ∀ (k : Nat) (s : Int), k < g.levels.length → gB c g k = true → (0 ≤ s ∧ s ≤ 5000000000000000) → ContractM Tryz.prog f [.int .i64 k, .int .i64 (gV c g k), .ptr r1, .op 0 0 0] ⟨1, true, [[.int .i64 s]]⟩ (.tup []) ⟨1, true, [[.int .i64 (s + w k)]]⟩) :
    ContractM Tryz.prog 24 [.agg (encChan c), .agg (encGrid g), .clo (.func f) [] [.ptr r1, .op 0 0 0]] ⟨1, true, [[.int .i64 0]]⟩ (.tup []) ⟨1, true, [[.int .i64 (dsum c g w g.levels.length)]]⟩ := by
  have h := okGrid h0
  have hov := hc.ov
  have hsm := h.small
  refine contractM_of mix Tryz.func24 rfl rfl (by rw [Tryz.ntmps24]; exact Nat.le_of_ble_eq_true rfl) (by kernel_rfl) (rfl) rfl ?_; rw [Tryz.results24, Tryz.ntmps24]; simp only [argsE, Nat.reduceAdd]
  repeat' first
           | (with_reducible apply go_op)
           | (with_reducible apply go_next)
           | ((with_reducible (show evOp _ _ _ _ _ _)); first
             | (((with_reducible apply go_mv_int); rfl; rfl))
             | (((with_reducible apply go_load_own); rfl; rfl; rfl; rfl))
             | (((with_reducible apply go_fieldAddr_own); rfl; rfl; rfl))
             | (((with_reducible apply go_len); rfl; rfl))
             | (((with_reducible apply go_bx_agg); rfl; rfl; (exact Nat.le_of_ble_eq_true rfl); rfl; rfl)))
           | ((with_reducible (show evOps _ _ _ _ _ _)); first
             | (with_reducible apply go_nil))
           | ((with_reducible (show evG _ _ _ _ _)); first
             | (with_reducible apply go_seq)
             | (with_reducible apply go_region)
             | (with_reducible apply go_block))
           | (with_reducible apply go_kseq)

  refine go_count g.levels.length (fun i => ⟨[(12, .int .i64 i), (11, .int .i64 g.levels.length), (3, .op 1 0 0), (4, .op 2 0 0), (2, .clo (.func f) [] [.ptr r1, .op 0 0 0])], [(0, ⟨1, true, [[.int .i64 (dsum c g w i)]]⟩), (1, ⟨5, true, [encChan c]⟩), (2, ⟨6, true, [encGrid g]⟩)], 32, 29⟩) (fun i => True)
    (entailsK_eq (nx := 32) (k := 0) (ns := []) (ks := [12, 11, 3, 4, 2]) [(0, 0), (1, 1), (33, 2)] (by simp) rfl (by simp) (by kernel_rfl)) trivial ?_
  intro i hi _
  have hbi := dsum_bd (c := c) (g := g) (w := w) i hi hw
  by_cases hlt : i < g.levels.length
  · have y3 : Contract Tryz.prog 42 [.agg (encGrid g), .int .i64 i] (.ret (.agg (Geo.encPt (gcen g i)))) := h_centre g h i hlt h0
    have hp := gcen_ok h hlt
    have y4 : Contract Tryz.prog 41 [.agg (encChan c), .agg (Geo.encPt (gcen g i))] (.ret (.tup [.int .i64 (gV c g i), .bool (gB c g i)])) := h_design c hc (gcen g i) hp
    have e : dsum c g w (i + 1) = dsum c g w i + if gB c g i = true then w i else 0 := rfl
    cases hB : gB c g i with
    | true =>
      have y5 := hf i (dsum c g w i) hlt hB (by omega)
      rw [hB] at y4
      rw [if_pos hB] at e
      repeat' first
           | ((with_reducible (show evG _ _ (.region 6 _ _) _ _)); (with_reducible apply go_regionM))
           | ((with_reducible apply (goM_callX (b := 0))); rfl; rfl; rfl; (exact rfl); rfl; rfl; (exact y5); rfl; rfl)
           | (with_reducible apply goM_op)
           | (with_reducible apply goM_next)
           | (with_reducible apply goM_nil)
           | (with_reducible apply go_op)
           | (with_reducible apply go_next)
           | ((with_reducible (show evOp _ _ _ _ _ _)); first
             | ((with_reducible (show evOp _ (.move _) _ _ _ _)) ; first | ((with_reducible apply go_mv_int); rfl; rfl) | ((with_reducible apply go_mv_bool); rfl; rfl) | ((with_reducible apply go_mv_tup); rfl; rfl) | ((with_reducible apply go_mv_clo); rfl; rfl))
             | ((with_reducible apply go_as))
             | (((with_reducible apply go_ld_agg); rfl; rfl; rfl; rfl))
             | ((with_reducible (show evOp _ (.binOp _ _ _ _ _) _ _ _ _)) ; first | ((with_reducible apply go_cmp); rfl; rfl; rfl; rfl) | ((with_reducible apply go_add); rfl; rfl; rfl; omega))
             | ((with_reducible (show evOp _ (.call _) _ _ _ _)) ; first | ((with_reducible apply go_fn_plain); rfl; (exact y3); rfl; (exact Nat.le_of_ble_eq_true rfl); rfl) | ((with_reducible apply go_fn_plain); rfl; (exact y4); rfl; (exact Nat.le_of_ble_eq_true rfl); rfl))
             | (((with_reducible apply go_extract); rfl; rfl)))
           | ((with_reducible (show evOps _ _ _ _ _ _)); first
             | (with_reducible apply go_nil)
             | ((with_reducible apply go_pre); rfl)
             | (with_reducible apply go_pre_nil)
             | ((with_reducible apply go_suf); rfl)
             | (with_reducible apply go_suf_nil))
           | ((with_reducible (show evG _ _ _ _ _)); first
             | (with_reducible apply go_seq)
             | (with_reducible apply go_region)
             | ((with_reducible apply go_cond_t); rfl; rfl)
             | (((with_reducible apply go_cond); rfl) <;> (intro h; simp only [h]; try simp only [decide_eq_true_eq, decide_eq_false_iff_not, Bool.not_eq_true', Bool.not_eq_false', Bool.not_true, Bool.not_false] at h; try exact absurd trivial h))
             | ((with_reducible apply go_order); kernel_rfl; rfl)
             | (with_reducible apply go_skipc)
             | (with_reducible apply go_block)
             | (with_reducible apply go_exit))
           | (with_reducible apply go_kseq)
           | (with_reducible apply go_ksuf)
           | (with_reducible apply go_kblock)
           | (with_reducible apply go_kblock_exit)
           | (with_reducible apply go_kseq_exit)
      all_goals try (exfalso; omega)
      refine ⟨by omega, trivial, ?_⟩
      rw [e]
      exact entailsK_eq (nx := 32) (k := 0) (ns := []) (ks := [12, 11, 3, 4, 2]) [(0, 0), (1, 1), (2, 2)] (by simp) rfl (by simp) (by kernel_rfl)
    | false =>
      rw [hB] at y4
      rw [if_neg (by rw [hB]; exact Bool.false_ne_true), Int.add_zero] at e
      repeat' first
           | (with_reducible apply go_op)
           | (with_reducible apply go_next)
           | ((with_reducible (show evOp _ _ _ _ _ _)); first
             | ((with_reducible (show evOp _ (.move _) _ _ _ _)) ; first | ((with_reducible apply go_mv_int); rfl; rfl) | ((with_reducible apply go_mv_bool); rfl; rfl) | ((with_reducible apply go_mv_tup); rfl; rfl))
             | ((with_reducible apply go_as))
             | (((with_reducible apply go_ld_agg); rfl; rfl; rfl; rfl))
             | ((with_reducible (show evOp _ (.binOp _ _ _ _ _) _ _ _ _)) ; first | ((with_reducible apply go_cmp); rfl; rfl; rfl; rfl) | ((with_reducible apply go_add); rfl; rfl; rfl; omega))
             | ((with_reducible (show evOp _ (.call _) _ _ _ _)) ; first | ((with_reducible apply go_fn_plain); rfl; (exact y3); rfl; (exact Nat.le_of_ble_eq_true rfl); rfl) | ((with_reducible apply go_fn_plain); rfl; (exact y4); rfl; (exact Nat.le_of_ble_eq_true rfl); rfl))
             | (((with_reducible apply go_extract); rfl; rfl)))
           | ((with_reducible (show evOps _ _ _ _ _ _)); first
             | (with_reducible apply go_nil)
             | ((with_reducible apply go_pre); rfl)
             | (with_reducible apply go_pre_nil)
             | ((with_reducible apply go_suf); rfl)
             | (with_reducible apply go_suf_nil))
           | ((with_reducible (show evG _ _ _ _ _)); first
             | (with_reducible apply go_seq)
             | (with_reducible apply go_region)
             | ((with_reducible apply go_cond_f); rfl; rfl)
             | (((with_reducible apply go_cond); rfl) <;> (intro h; simp only [h]; try simp only [decide_eq_true_eq, decide_eq_false_iff_not, Bool.not_eq_true', Bool.not_eq_false', Bool.not_true, Bool.not_false] at h; try exact absurd trivial h))
             | ((with_reducible apply go_order); kernel_rfl; rfl)
             | (with_reducible apply go_skipc)
             | (with_reducible apply go_block)
             | (with_reducible apply go_exit))
           | (with_reducible apply go_kseq)
           | (with_reducible apply go_ksuf)
           | (with_reducible apply go_kblock)
           | (with_reducible apply go_kblock_exit)
           | (with_reducible apply go_kseq_exit)
      all_goals try (exfalso; omega)
      refine ⟨by omega, trivial, ?_⟩
      rw [e]
      exact entailsK_eq (nx := 32) (k := 0) (ns := []) (ks := [12, 11, 3, 4, 2]) [(0, 0), (1, 1), (2, 2)] (by simp) rfl (by simp) (by kernel_rfl)
  · have e : i = g.levels.length := by omega
    subst e
    repeat' first
           | (with_reducible apply go_op)
           | (with_reducible apply go_next)
           | ((with_reducible (show evOp _ _ _ _ _ _)); first
             | (((with_reducible apply go_mv_int); rfl; rfl))
             | ((with_reducible apply go_as))
             | (((with_reducible apply go_ld_agg); rfl; rfl; rfl; rfl))
             | (((with_reducible apply go_cmp); rfl; rfl; rfl; rfl)))
           | ((with_reducible (show evOps _ _ _ _ _ _)); first
             | (with_reducible apply go_nil)
             | ((with_reducible apply go_pre); rfl))
           | ((with_reducible (show evG _ _ _ _ _)); first
             | (with_reducible apply go_seq)
             | (with_reducible apply go_region)
             | (((with_reducible apply go_cond); rfl) <;> (intro h; simp only [h]; try simp only [decide_eq_true_eq, decide_eq_false_iff_not, Bool.not_eq_true', Bool.not_eq_false', Bool.not_true, Bool.not_false] at h; try exact absurd trivial h))
             | ((with_reducible apply go_order); kernel_rfl; rfl)
             | (with_reducible apply go_skipc)
             | (with_reducible apply go_block)
             | (with_reducible apply go_exit))
           | (with_reducible apply go_kseq)
           | (with_reducible apply go_kblock_exit)
           | (with_reducible apply go_kseq_exit)
    all_goals first
      | exact ⟨[], rfl, rfl, rfl⟩
      | (exfalso; omega)
      | trace_state
end Go.Pv.Soil

open Go Go.Proofs Go.Pv
set_option maxHeartbeats 4000000
set_option maxRecDepth 100000
set_option linter.unusedVariables false
set_option linter.unusedSimpArgs false
namespace Go.Pv.Soil
theorem h_designed5 (c : Chan) (hc : OkChan c) (g : Grid) (h0 : gridE g = 0) (f : FuncId) (r1 r2 r4 r5 : List D) (w : Nat → Int) (hw : ∀ k, k < g.levels.length → gB c g k = true → 0 ≤ w k ∧ w k ≤ 4000000000000)
    (hf : ∀ (k : Nat) (s : Int), k < g.levels.length → gB c g k = true → (0 ≤ s ∧ s ≤ 5000000000000000) → ContractM Tryz.prog f [.int .i64 k, .int .i64 (gV c g k), .ptr r1, .ptr r2, .op 0 0 0, .ptr r4, .ptr r5] ⟨1, true, [[.int .i64 s]]⟩ (.tup []) ⟨1, true, [[.int .i64 (s + w k)]]⟩) :
    ContractM Tryz.prog 24 [.agg (encChan c), .agg (encGrid g), .clo (.func f) [] [.ptr r1, .ptr r2, .op 0 0 0, .ptr r4, .ptr r5]] ⟨1, true, [[.int .i64 0]]⟩ (.tup []) ⟨1, true, [[.int .i64 (dsum c g w g.levels.length)]]⟩ := by
  have h := okGrid h0
  have hov := hc.ov
  have hsm := h.small
  refine contractM_of mix Tryz.func24 rfl rfl (by rw [Tryz.ntmps24]; exact Nat.le_of_ble_eq_true rfl) (by kernel_rfl) (rfl) rfl ?_; rw [Tryz.results24, Tryz.ntmps24]; simp only [argsE, Nat.reduceAdd]
  repeat' first
           | (with_reducible apply go_op)
           | (with_reducible apply go_next)
           | ((with_reducible (show evOp _ _ _ _ _ _)); first
             | (((with_reducible apply go_mv_int); rfl; rfl))
             | (((with_reducible apply go_load_own); rfl; rfl; rfl; rfl))
             | (((with_reducible apply go_fieldAddr_own); rfl; rfl; rfl))
             | (((with_reducible apply go_len); rfl; rfl))
             | (((with_reducible apply go_bx_agg); rfl; rfl; (exact Nat.le_of_ble_eq_true rfl); rfl; rfl)))
           | ((with_reducible (show evOps _ _ _ _ _ _)); first
             | (with_reducible apply go_nil))
           | ((with_reducible (show evG _ _ _ _ _)); first
             | (with_reducible apply go_seq)
             | (with_reducible apply go_region)
             | (with_reducible apply go_block))
           | (with_reducible apply go_kseq)

  refine go_count g.levels.length (fun i => ⟨[(12, .int .i64 i), (11, .int .i64 g.levels.length), (3, .op 1 0 0), (4, .op 2 0 0), (2, .clo (.func f) [] [.ptr r1, .ptr r2, .op 0 0 0, .ptr r4, .ptr r5])], [(0, ⟨1, true, [[.int .i64 (dsum c g w i)]]⟩), (1, ⟨5, true, [encChan c]⟩), (2, ⟨6, true, [encGrid g]⟩)], 32, 29⟩) (fun i => True)
    (entailsK_eq (nx := 32) (k := 0) (ns := []) (ks := [12, 11, 3, 4, 2]) [(0, 0), (1, 1), (33, 2)] (by simp) rfl (by simp) (by kernel_rfl)) trivial ?_
  intro i hi _
  have hbi := dsum_bd (c := c) (g := g) (w := w) i hi hw
  by_cases hlt : i < g.levels.length
  · have y3 : Contract Tryz.prog 42 [.agg (encGrid g), .int .i64 i] (.ret (.agg (Geo.encPt (gcen g i)))) := h_centre g h i hlt h0
    have hp := gcen_ok h hlt
    have y4 : Contract Tryz.prog 41 [.agg (encChan c), .agg (Geo.encPt (gcen g i))] (.ret (.tup [.int .i64 (gV c g i), .bool (gB c g i)])) := h_design c hc (gcen g i) hp
    have e : dsum c g w (i + 1) = dsum c g w i + if gB c g i = true then w i else 0 := rfl
    cases hB : gB c g i with
    | true =>
      have y5 := hf i (dsum c g w i) hlt hB (by omega)
      rw [hB] at y4
      rw [if_pos hB] at e
      repeat' first
           | ((with_reducible (show evG _ _ (.region 6 _ _) _ _)); (with_reducible apply go_regionM))
           | ((with_reducible apply (goM_callX (b := 0))); rfl; rfl; rfl; (exact rfl); rfl; rfl; (exact y5); rfl; rfl)
           | (with_reducible apply goM_op)
           | (with_reducible apply goM_next)
           | (with_reducible apply goM_nil)
           | (with_reducible apply go_op)
           | (with_reducible apply go_next)
           | ((with_reducible (show evOp _ _ _ _ _ _)); first
             | ((with_reducible (show evOp _ (.move _) _ _ _ _)) ; first | ((with_reducible apply go_mv_int); rfl; rfl) | ((with_reducible apply go_mv_bool); rfl; rfl) | ((with_reducible apply go_mv_tup); rfl; rfl) | ((with_reducible apply go_mv_clo); rfl; rfl))
             | ((with_reducible apply go_as))
             | (((with_reducible apply go_ld_agg); rfl; rfl; rfl; rfl))
             | ((with_reducible (show evOp _ (.binOp _ _ _ _ _) _ _ _ _)) ; first | ((with_reducible apply go_cmp); rfl; rfl; rfl; rfl) | ((with_reducible apply go_add); rfl; rfl; rfl; omega))
             | ((with_reducible (show evOp _ (.call _) _ _ _ _)) ; first | ((with_reducible apply go_fn_plain); rfl; (exact y3); rfl; (exact Nat.le_of_ble_eq_true rfl); rfl) | ((with_reducible apply go_fn_plain); rfl; (exact y4); rfl; (exact Nat.le_of_ble_eq_true rfl); rfl))
             | (((with_reducible apply go_extract); rfl; rfl)))
           | ((with_reducible (show evOps _ _ _ _ _ _)); first
             | (with_reducible apply go_nil)
             | ((with_reducible apply go_pre); rfl)
             | (with_reducible apply go_pre_nil)
             | ((with_reducible apply go_suf); rfl)
             | (with_reducible apply go_suf_nil))
           | ((with_reducible (show evG _ _ _ _ _)); first
             | (with_reducible apply go_seq)
             | (with_reducible apply go_region)
             | ((with_reducible apply go_cond_t); rfl; rfl)
             | (((with_reducible apply go_cond); rfl) <;> (intro h; simp only [h]; try simp only [decide_eq_true_eq, decide_eq_false_iff_not, Bool.not_eq_true', Bool.not_eq_false', Bool.not_true, Bool.not_false] at h; try exact absurd trivial h))
             | ((with_reducible apply go_order); kernel_rfl; rfl)
             | (with_reducible apply go_skipc)
             | (with_reducible apply go_block)
             | (with_reducible apply go_exit))
           | (with_reducible apply go_kseq)
           | (with_reducible apply go_ksuf)
           | (with_reducible apply go_kblock)
           | (with_reducible apply go_kblock_exit)
           | (with_reducible apply go_kseq_exit)
      all_goals try (exfalso; omega)
      refine ⟨by omega, trivial, ?_⟩
      rw [e]
      exact entailsK_eq (nx := 32) (k := 0) (ns := []) (ks := [12, 11, 3, 4, 2]) [(0, 0), (1, 1), (2, 2)] (by simp) rfl (by simp) (by kernel_rfl)
    | false =>
      rw [hB] at y4
      rw [if_neg (by rw [hB]; exact Bool.false_ne_true), Int.add_zero] at e
      repeat' first
           | (with_reducible apply go_op)
           | (with_reducible apply go_next)
           | ((with_reducible (show evOp _ _ _ _ _ _)); first
             | ((with_reducible (show evOp _ (.move _) _ _ _ _)) ; first | ((with_reducible apply go_mv_int); rfl; rfl) | ((with_reducible apply go_mv_bool); rfl; rfl) | ((with_reducible apply go_mv_tup); rfl; rfl))
             | ((with_reducible apply go_as))
             | (((with_reducible apply go_ld_agg); rfl; rfl; rfl; rfl))
             | ((with_reducible (show evOp _ (.binOp _ _ _ _ _) _ _ _ _)) ; first | ((with_reducible apply go_cmp); rfl; rfl; rfl; rfl) | ((with_reducible apply go_add); rfl; rfl; rfl; omega))
             | ((with_reducible (show evOp _ (.call _) _ _ _ _)) ; first | ((with_reducible apply go_fn_plain); rfl; (exact y3); rfl; (exact Nat.le_of_ble_eq_true rfl); rfl) | ((with_reducible apply go_fn_plain); rfl; (exact y4); rfl; (exact Nat.le_of_ble_eq_true rfl); rfl))
             | (((with_reducible apply go_extract); rfl; rfl)))
           | ((with_reducible (show evOps _ _ _ _ _ _)); first
             | (with_reducible apply go_nil)
             | ((with_reducible apply go_pre); rfl)
             | (with_reducible apply go_pre_nil)
             | ((with_reducible apply go_suf); rfl)
             | (with_reducible apply go_suf_nil))
           | ((with_reducible (show evG _ _ _ _ _)); first
             | (with_reducible apply go_seq)
             | (with_reducible apply go_region)
             | ((with_reducible apply go_cond_f); rfl; rfl)
             | (((with_reducible apply go_cond); rfl) <;> (intro h; simp only [h]; try simp only [decide_eq_true_eq, decide_eq_false_iff_not, Bool.not_eq_true', Bool.not_eq_false', Bool.not_true, Bool.not_false] at h; try exact absurd trivial h))
             | ((with_reducible apply go_order); kernel_rfl; rfl)
             | (with_reducible apply go_skipc)
             | (with_reducible apply go_block)
             | (with_reducible apply go_exit))
           | (with_reducible apply go_kseq)
           | (with_reducible apply go_ksuf)
           | (with_reducible apply go_kblock)
           | (with_reducible apply go_kblock_exit)
           | (with_reducible apply go_kseq_exit)
      all_goals try (exfalso; omega)
      refine ⟨by omega, trivial, ?_⟩
      rw [e]
      exact entailsK_eq (nx := 32) (k := 0) (ns := []) (ks := [12, 11, 3, 4, 2]) [(0, 0), (1, 1), (2, 2)] (by simp) rfl (by simp) (by kernel_rfl)
  · have e : i = g.levels.length := by omega
    subst e
    repeat' first
           | (with_reducible apply go_op)
           | (with_reducible apply go_next)
           | ((with_reducible (show evOp _ _ _ _ _ _)); first
             | (((with_reducible apply go_mv_int); rfl; rfl))
             | ((with_reducible apply go_as))
             | (((with_reducible apply go_ld_agg); rfl; rfl; rfl; rfl))
             | (((with_reducible apply go_cmp); rfl; rfl; rfl; rfl)))
           | ((with_reducible (show evOps _ _ _ _ _ _)); first
             | (with_reducible apply go_nil)
             | ((with_reducible apply go_pre); rfl))
           | ((with_reducible (show evG _ _ _ _ _)); first
             | (with_reducible apply go_seq)
             | (with_reducible apply go_region)
             | (((with_reducible apply go_cond); rfl) <;> (intro h; simp only [h]; try simp only [decide_eq_true_eq, decide_eq_false_iff_not, Bool.not_eq_true', Bool.not_eq_false', Bool.not_true, Bool.not_false] at h; try exact absurd trivial h))
             | ((with_reducible apply go_order); kernel_rfl; rfl)
             | (with_reducible apply go_skipc)
             | (with_reducible apply go_block)
             | (with_reducible apply go_exit))
           | (with_reducible apply go_kseq)
           | (with_reducible apply go_kblock_exit)
           | (with_reducible apply go_kseq_exit)
    all_goals first
      | exact ⟨[], rfl, rfl, rfl⟩
      | (exfalso; omega)
      | trace_state
theorem h_designedP (c : Chan) (hc : OkChan c) (g : Grid) (h0 : gridE g = 0) (f : FuncId) (r1 r2 : List D)
    (hf : ∀ (k : Nat), k < g.levels.length → gB c g k = true → Contract Tryz.prog f [.int .i64 k, .int .i64 (gV c g k), .ptr r1, .ptr r2] (.ret (.tup []))) :
    Contract Tryz.prog 24 [.agg (encChan c), .agg (encGrid g), .clo (.func f) [] [.ptr r1, .ptr r2]] (.ret (.tup [])) := by
  have h := okGrid h0
  have hov := hc.ov
  have hsm := h.small
  refine contract_of mix Tryz.func24 rfl rfl (by rw [Tryz.ntmps24]; exact Nat.le_of_ble_eq_true rfl) ?_; rw [Tryz.results24, Tryz.ntmps24]; simp only [argsE, Nat.reduceAdd]
  repeat' first
           | (with_reducible apply go_op)
           | (with_reducible apply go_next)
           | ((with_reducible (show evOp _ _ _ _ _ _)); first
             | (((with_reducible apply go_mv_int); rfl; rfl))
             | (((with_reducible apply go_load_own); rfl; rfl; rfl; rfl))
             | (((with_reducible apply go_fieldAddr_own); rfl; rfl; rfl))
             | (((with_reducible apply go_len); rfl; rfl))
             | (((with_reducible apply go_bx_agg); rfl; rfl; (exact Nat.le_of_ble_eq_true rfl); rfl; rfl)))
           | ((with_reducible (show evOps _ _ _ _ _ _)); first
             | (with_reducible apply go_nil))
           | ((with_reducible (show evG _ _ _ _ _)); first
             | (with_reducible apply go_seq)
             | (with_reducible apply go_region)
             | (with_reducible apply go_block))
           | (with_reducible apply go_kseq)
  refine go_count g.levels.length (fun i => ⟨[(12, .int .i64 i), (11, .int .i64 g.levels.length), (3, .op 0 0 0), (4, .op 1 0 0), (2, .clo (.func f) [] [.ptr r1, .ptr r2])], [(0, ⟨5, true, [encChan c]⟩), (1, ⟨6, true, [encGrid g]⟩)], 32, 29⟩) (fun i => True)
    (entails_eq (nx := 32) (k := 0) (ns := []) (ks := [12, 11, 3, 4, 2]) [(0, 0), (32, 1)] rfl (by simp) (by kernel_rfl)) trivial ?_
  intro i hi _
  by_cases hlt : i < g.levels.length
  · have y3 : Contract Tryz.prog 42 [.agg (encGrid g), .int .i64 i] (.ret (.agg (Geo.encPt (gcen g i)))) := h_centre g h i hlt h0
    have hp := gcen_ok h hlt
    have y4 : Contract Tryz.prog 41 [.agg (encChan c), .agg (Geo.encPt (gcen g i))] (.ret (.tup [.int .i64 (gV c g i), .bool (gB c g i)])) := h_design c hc (gcen g i) hp
    cases hB : gB c g i with
    | true =>
      have y5 := hf i hlt hB
      rw [hB] at y4
      repeat' first
           | (with_reducible apply go_op)
           | (with_reducible apply go_next)
           | ((with_reducible (show evOp _ _ _ _ _ _)); first
             | ((with_reducible (show evOp _ (.move _) _ _ _ _)) ; first | ((with_reducible apply go_mv_int); rfl; rfl) | ((with_reducible apply go_mv_bool); rfl; rfl) | ((with_reducible apply go_mv_tup); rfl; rfl) | ((with_reducible apply go_mv_clo); rfl; rfl))
             | ((with_reducible apply go_as))
             | (((with_reducible apply go_ld_agg); rfl; rfl; rfl; rfl))
             | (((with_reducible apply go_cmp); rfl; rfl; rfl; rfl))
             | ((with_reducible (show evOp _ (.call _) _ _ _ _)) ; first | ((with_reducible apply go_fn_plain); rfl; (exact y3); rfl; (exact Nat.le_of_ble_eq_true rfl); rfl) | ((with_reducible apply go_fn_plain); rfl; (exact y4); rfl; (exact Nat.le_of_ble_eq_true rfl); rfl))
             | (((with_reducible apply go_extract); rfl; rfl)))
           | ((with_reducible (show evOps _ _ _ _ _ _)); first
             | (with_reducible apply go_nil)
             | ((with_reducible apply go_pre); rfl)
             | (with_reducible apply go_pre_nil)
             | ((with_reducible apply go_suf); rfl)
             | (with_reducible apply go_suf_nil))
           | ((with_reducible (show evG _ _ _ _ _)); first
             | (with_reducible apply go_seq)
             | (with_reducible apply go_region)
             | ((with_reducible apply go_cond_t); rfl; rfl)
             | (((with_reducible apply go_cond); rfl) <;> (intro h; simp only [h]; try simp only [decide_eq_true_eq, decide_eq_false_iff_not, Bool.not_eq_true', Bool.not_eq_false', Bool.not_true, Bool.not_false] at h; try exact absurd trivial h))
             | ((with_reducible apply go_order); kernel_rfl; rfl)
             | (with_reducible apply go_skipc)
             | (with_reducible apply go_block)
             | (with_reducible apply go_exit))
           | (with_reducible apply go_kseq)
           | (with_reducible apply go_ksuf)
           | (with_reducible apply go_kblock_exit)
           | (with_reducible apply go_kseq_exit)
      all_goals try (exfalso; omega)
      refine go_clo2_unit rfl rfl rfl (fun _ _ => rfl) y5 rfl ?_
      repeat' first
           | (with_reducible apply go_op)
           | (with_reducible apply go_next)
           | ((with_reducible (show evOp _ _ _ _ _ _)); first
             | (((with_reducible apply go_mv_int); rfl; rfl))
             | (((with_reducible apply go_add); rfl; rfl; rfl; omega)))
           | ((with_reducible (show evOps _ _ _ _ _ _)); first
             | (with_reducible apply go_nil))
           | ((with_reducible (show evG _ _ _ _ _)); first
             | (with_reducible apply go_region))
           | (with_reducible apply go_kseq)
           | (with_reducible apply go_kblock)
      refine ⟨by omega, trivial, ?_⟩
      exact entails_eq (nx := 32) (k := 0) (ns := []) (ks := [12, 11, 3, 4, 2]) [(0, 0), (1, 1)] rfl (by simp) (by kernel_rfl)
    | false =>
      rw [hB] at y4
      repeat' first
           | (with_reducible apply go_op)
           | (with_reducible apply go_next)
           | ((with_reducible (show evOp _ _ _ _ _ _)); first
             | ((with_reducible (show evOp _ (.move _) _ _ _ _)) ; first | ((with_reducible apply go_mv_int); rfl; rfl) | ((with_reducible apply go_mv_bool); rfl; rfl) | ((with_reducible apply go_mv_tup); rfl; rfl))
             | ((with_reducible apply go_as))
             | (((with_reducible apply go_ld_agg); rfl; rfl; rfl; rfl))
             | ((with_reducible (show evOp _ (.binOp _ _ _ _ _) _ _ _ _)) ; first | ((with_reducible apply go_cmp); rfl; rfl; rfl; rfl) | ((with_reducible apply go_add); rfl; rfl; rfl; omega))
             | ((with_reducible (show evOp _ (.call _) _ _ _ _)) ; first | ((with_reducible apply go_fn_plain); rfl; (exact y3); rfl; (exact Nat.le_of_ble_eq_true rfl); rfl) | ((with_reducible apply go_fn_plain); rfl; (exact y4); rfl; (exact Nat.le_of_ble_eq_true rfl); rfl))
             | (((with_reducible apply go_extract); rfl; rfl)))
           | ((with_reducible (show evOps _ _ _ _ _ _)); first
             | (with_reducible apply go_nil)
             | ((with_reducible apply go_pre); rfl)
             | (with_reducible apply go_pre_nil)
             | ((with_reducible apply go_suf); rfl)
             | (with_reducible apply go_suf_nil))
           | ((with_reducible (show evG _ _ _ _ _)); first
             | (with_reducible apply go_seq)
             | (with_reducible apply go_region)
             | ((with_reducible apply go_cond_f); rfl; rfl)
             | (((with_reducible apply go_cond); rfl) <;> (intro h; simp only [h]; try simp only [decide_eq_true_eq, decide_eq_false_iff_not, Bool.not_eq_true', Bool.not_eq_false', Bool.not_true, Bool.not_false] at h; try exact absurd trivial h))
             | ((with_reducible apply go_order); kernel_rfl; rfl)
             | (with_reducible apply go_skipc)
             | (with_reducible apply go_block)
             | (with_reducible apply go_exit))
           | (with_reducible apply go_kseq)
           | (with_reducible apply go_ksuf)
           | (with_reducible apply go_kblock)
           | (with_reducible apply go_kblock_exit)
           | (with_reducible apply go_kseq_exit)
      all_goals try (exfalso; omega)
      refine ⟨by omega, trivial, ?_⟩
      exact entails_eq (nx := 32) (k := 0) (ns := []) (ks := [12, 11, 3, 4, 2]) [(0, 0), (1, 1)] rfl (by simp) (by kernel_rfl)
  · have e : i = g.levels.length := by omega
    subst e
    repeat' first
           | (with_reducible apply go_op)
           | (with_reducible apply go_next)
           | ((with_reducible (show evOp _ _ _ _ _ _)); first
             | (((with_reducible apply go_mv_int); rfl; rfl))
             | ((with_reducible apply go_as))
             | (((with_reducible apply go_ld_agg); rfl; rfl; rfl; rfl))
             | (((with_reducible apply go_cmp); rfl; rfl; rfl; rfl)))
           | ((with_reducible (show evOps _ _ _ _ _ _)); first
             | (with_reducible apply go_nil)
             | ((with_reducible apply go_pre); rfl))
           | ((with_reducible (show evG _ _ _ _ _)); first
             | (with_reducible apply go_seq)
             | (with_reducible apply go_region)
             | (((with_reducible apply go_cond); rfl) <;> (intro h; simp only [h]; try simp only [decide_eq_true_eq, decide_eq_false_iff_not, Bool.not_eq_true', Bool.not_eq_false', Bool.not_true, Bool.not_false] at h; try exact absurd trivial h))
             | ((with_reducible apply go_order); kernel_rfl; rfl)
             | (with_reducible apply go_skipc)
             | (with_reducible apply go_block)
             | (with_reducible apply go_exit))
           | (with_reducible apply go_kseq)
           | (with_reducible apply go_kblock_exit)
           | (with_reducible apply go_kseq_exit)
    all_goals first
      | (exfalso; omega)
      | exact end_unit
      | exact end_unit'
      | trace_state
noncomputable def needN (c : Chan) (g : Grid) : Int := dsum c g (fun k => needW g (gV c g k) k) g.levels.length
theorem needW_bd {c : Chan} (hc : OkChan c) {g : Grid} (h : OkGrid g) : ∀ k, k < g.levels.length → gB c g k = true → 0 ≤ needW g (gV c g k) k ∧ needW g (gV c g k) k ≤ 4000000000000 := by
  intro k hk hB
  have hov := hc.ov
  have hbd : c.over - 20000 ≤ gV c g k ∧ gV c g k ≤ 20000 := des_bd hc (gcen_ok h hk) (m := c.over - 20000) (by omega) (axis_low hc) hB
  have rm := h.rng k hk
  have em := lv_get hk
  have hb := h.bds
  unfold needW
  rw [em] at rm ⊢
  split
  · have hp := xprod_bd (s := g.side) (x := max 0 (g.levels[k] - gV c g k)) (by omega) (by omega)
    exact hp.2
  · omega
theorem h_Needed (c : Chan) (hc : OkChan c) (g : Grid) (h0 : gridE g = 0) : Contract Tryz.prog 13 [.agg (encChan c), .agg (encGrid g)] (.ret (.tup [.int .i64 (needN c g), .int .i64 0])) := by
  have h := okGrid h0
  have hsm := h.small
  have hov := hc.ov
  have y1 := h_both c hc g (by omega)
  rw [h0] at y1
  have y2 := h_designed2 c hc g h0 25 (encGrid g) (fun k => needW g (gV c g k) k) (needW_bd hc h) fun k s hk hB hs => by
    have hbd : c.over - 20000 ≤ gV c g k ∧ gV c g k ≤ 20000 := des_bd hc (gcen_ok h hk) (m := c.over - 20000) (by omega) (axis_low hc) hB
    exact h_Needed1 g h (gV c g k) (by omega) k hk s hs
  refine contract_of mix Tryz.func13 rfl rfl (by rw [Tryz.ntmps13]; exact Nat.le_of_ble_eq_true rfl) ?_; rw [Tryz.results13, Tryz.ntmps13]; simp only [argsE, Nat.reduceAdd]
  repeat' first
           | ((with_reducible (show evG _ _ (.region 5 _ _) _ _)); (with_reducible apply go_regionM))
           | ((with_reducible apply (goM_callX (b := 320))); rfl; rfl; rfl; (exact rfl); rfl; rfl; (exact y2); rfl; rfl)
           | (with_reducible apply goM_op)
           | (with_reducible apply goM_next)
           | (with_reducible apply goM_nil)
           | (with_reducible apply go_op)
           | (with_reducible apply go_next)
           | ((with_reducible (show evOp _ _ _ _ _ _)); first
             | (((with_reducible apply go_mv_int); rfl; rfl))
             | ((with_reducible apply go_as))
             | ((with_reducible (show evOp _ (.load _ _) _ _ _ _)) ; first | ((with_reducible apply go_ld_agg); rfl; rfl; rfl; rfl) | ((with_reducible apply go_ld_one); rfl; rfl; rfl))
             | (((with_reducible apply go_cmp); rfl; rfl; rfl; rfl))
             | (((with_reducible apply go_fn_int); rfl; (exact y1); rfl))
             | (((with_reducible apply go_st_int); rfl; rfl; rfl))
             | (((with_reducible apply go_bx_agg); rfl; rfl; (exact Nat.le_of_ble_eq_true rfl); rfl; rfl))
             | (((with_reducible apply go_alloc); rfl; rfl; rfl))
             | (((with_reducible apply go_fn2); rfl; rfl; rfl)))
           | ((with_reducible (show evOps _ _ _ _ _ _)); first
             | (with_reducible apply go_nil))
           | ((with_reducible (show evG _ _ _ _ _)); first
             | (with_reducible apply go_seq)
             | (with_reducible apply go_region)
             | ((with_reducible apply go_cond_f); rfl; rfl)
             | (with_reducible apply go_ret)
             | (with_reducible apply go_skipc))
           | (with_reducible apply go_kseq)
           | ((with_reducible apply end_t2); rfl; rfl; rfl; rfl)
  all_goals first | (exfalso; omega) | rfl | trace_state
end Go.Pv.Soil

open Go Go.Proofs Go.Pv
set_option maxHeartbeats 4000000
set_option maxRecDepth 100000
set_option linter.unusedVariables false
set_option linter.unusedSimpArgs false
namespace Go.Pv.Soil
theorem h_Open1 (g : Grid) (h : OkGrid g) (v : Int) (k : Nat) (hk : k < g.levels.length) (hl : lv g.levels k ≠ 30000 → lv g.levels k ≤ v) :
    Contract Tryz.prog 26 [.int .i64 k, .int .i64 v, .ptr (encGrid g), .ptr [.sl []]] (.ret (.tup [])) := by
  have hsm := h.small
  have em := lv_get hk
  rw [em] at hl
  refine contract_of mix Tryz.func26 rfl rfl (by rw [Tryz.ntmps26]; exact Nat.le_of_ble_eq_true rfl) ?_; rw [Tryz.results26, Tryz.ntmps26]; simp only [argsE, Nat.reduceAdd]
  repeat' first
           | (with_reducible apply go_op)
           | (with_reducible apply go_next)
           | ((with_reducible (show evOp _ _ _ _ _ _)); first
             | ((with_reducible (show evOp _ (.move _) _ _ _ _)) ; first | ((with_reducible apply go_mv_int); rfl; rfl) | ((with_reducible apply go_mv_bool); rfl; rfl))
             | (((with_reducible apply go_load); rfl; rfl; rfl))
             | (((with_reducible apply go_fieldAddr); rfl; rfl))
             | (((with_reducible apply go_index_nat); rfl; rfl; (with_reducible rfl); (intro; rfl); rfl; omega; (intro hlt)))
             | (((with_reducible apply go_cmp); rfl; rfl; rfl; rfl))
             | (((with_reducible apply go_pick); rfl; rfl; rfl))
             | (((with_reducible apply go_bs1_int); rfl; rfl; rfl)))
           | ((with_reducible (show evOps _ _ _ _ _ _)); first
             | (with_reducible apply go_nil)
             | ((with_reducible apply go_run); rfl; rfl)
             | ((with_reducible apply go_pass); rfl; rfl; rfl)
             | (((with_reducible apply go_guard); rfl) <;> (intro h; simp only [h, Bool.not_true, Bool.not_false]; (try with_reducible (refine ⟨rfl, ?_⟩)); try simp only [decide_eq_true_eq, decide_eq_false_iff_not, Bool.not_eq_true', Bool.not_eq_false', Bool.not_true, Bool.not_false] at h; try exact absurd trivial h)))
           | ((with_reducible (show evG _ _ _ _ _)); first
             | (with_reducible apply go_seq)
             | (with_reducible apply go_region)
             | ((with_reducible apply go_cond_f); rfl; rfl)
             | (((with_reducible apply go_cond); rfl) <;> (intro h; simp only [h]; try simp only [decide_eq_true_eq, decide_eq_false_iff_not, Bool.not_eq_true', Bool.not_eq_false', Bool.not_true, Bool.not_false] at h; try exact absurd trivial h))
             | (with_reducible apply go_skipc))
           | (with_reducible apply go_kseq)
  all_goals first
    | exact end_unit
    | exact end_unit'
    | (exfalso; omega)
    | trace_state
theorem h_Open (c : Chan) (hc : OkChan c) (g : Grid) (h0 : gridE g = 0) (hl : ∀ k, k < g.levels.length → gB c g k = true → lv g.levels k ≠ 30000 → lv g.levels k ≤ gV c g k) :
    Contract Tryz.prog 14 [.agg (encChan c), .agg (encGrid g)] (.ret (.tup [.fr 1 (([] : List Int).map encInt), .int .i64 0])) := by
  have h := okGrid h0
  have hsm := h.small
  have hov := hc.ov
  have y1 := h_both c hc g (by omega)
  rw [h0] at y1
  have y2 := h_designedP c hc g h0 26 (encGrid g) [.sl []] fun k hk hB => h_Open1 g h (gV c g k) k hk (hl k hk hB)
  refine contract_of mix Tryz.func14 rfl rfl (by rw [Tryz.ntmps14]; exact Nat.le_of_ble_eq_true rfl) ?_; rw [Tryz.results14, Tryz.ntmps14]; simp only [argsE, Nat.reduceAdd]
  repeat' first
           | (with_reducible apply go_op)
           | (with_reducible apply go_next)
           | ((with_reducible (show evOp _ _ _ _ _ _)); first
             | ((with_reducible (show evOp _ (.move _) _ _ _ _)) ; first | ((with_reducible apply go_mv_int); rfl; rfl) | ((with_reducible apply go_mv_nilsl); rfl; rfl))
             | ((with_reducible apply go_as))
             | ((with_reducible (show evOp _ (.load _ _) _ _ _ _)) ; first | ((with_reducible apply go_ld_agg); rfl; rfl; rfl; rfl) | ((with_reducible apply go_ld_one); rfl; rfl; rfl))
             | (((with_reducible apply go_cmp); rfl; rfl; rfl; rfl))
             | ((with_reducible (show evOp _ (.call _) _ _ _ _)) ; first | ((with_reducible apply go_fn_int); rfl; (exact y1); rfl) | ((with_reducible apply go_fn_plain); rfl; (exact y2); rfl; (exact Nat.le_of_ble_eq_true rfl); rfl))
             | (((with_reducible apply go_bx_agg); rfl; rfl; (exact Nat.le_of_ble_eq_true rfl); rfl; rfl))
             | (((with_reducible apply go_alloc); rfl; rfl; rfl))
             | (((with_reducible apply go_fn2); rfl; rfl; rfl)))
           | ((with_reducible (show evOps _ _ _ _ _ _)); first
             | (with_reducible apply go_nil))
           | ((with_reducible (show evG _ _ _ _ _)); first
             | (with_reducible apply go_seq)
             | (with_reducible apply go_region)
             | ((with_reducible apply go_cond_f); rfl; rfl)
             | (with_reducible apply go_ret)
             | (with_reducible apply go_skipc))
           | (with_reducible apply go_kseq)
  all_goals first
    | (exfalso; omega)
    | exact finK_ret (fin_nil2 rfl rfl rfl)
    | trace_state
/-- What is added for a cell that is known in both beds. -/
def remW (H : Int → Int → Int → Int) (c : Chan) (b a : Grid) (v : Int) (k : Nat) : Int := if lv b.levels k ≠ 30000 ∧ lv a.levels k ≠ 30000 then b.side * b.side * max 0 (H (lv b.levels k) (lv a.levels k) (v - c.over)) else 0
def HOK (H : Int → Int → Int → Int) : Prop := ∀ x y t, (-20000 ≤ x ∧ x ≤ 20000) → (-20000 ≤ y ∧ y ≤ 20000) → (-20000 ≤ t ∧ t ≤ 20000) → -40000 ≤ H x y t ∧ H x y t ≤ 40000
theorem h_removed1 (H : Int → Int → Int → Int) (hH : HOK H) (f : FuncId) (hf : ∀ x y t, (-20000 ≤ x ∧ x ≤ 20000) → (-20000 ≤ y ∧ y ≤ 20000) → (-20000 ≤ t ∧ t ≤ 20000) → Contract Tryz.prog f [.int .i64 x, .int .i64 y, .int .i64 t] (.ret (.int .i64 (H x y t))))
    (c : Chan) (hc : OkChan c) (b a : Grid) (h : OkGrid b) (h' : OkGrid a) (hlen : a.levels.length = b.levels.length) (v : Int) (hv : c.over - 20000 ≤ v ∧ v ≤ 20000) (k : Nat) (hk : k < b.levels.length) (s : Int) (hs : 0 ≤ s ∧ s ≤ 5000000000000000) :
    ContractM Tryz.prog 47 [.int .i64 k, .int .i64 v, .ptr (encGrid b), .ptr (encGrid a), .op 0 0 0, .ptr [.clo (.func f) [] []], .ptr (encChan c)] ⟨1, true, [[.int .i64 s]]⟩ (.tup []) ⟨1, true, [[.int .i64 (s + remW H c b a v k)]]⟩ := by
  have hov := hc.ov
  have rm := h.rng k hk
  have ra := h'.rng k (by omega)
  have hsm := h.small
  have em := lv_get hk
  have ea := lv_get (l := a.levels) (i := k) (by omega)
  have hb := h.bds
  unfold remW
  rw [em] at rm ⊢
  rw [ea] at ra ⊢
  by_cases hu : b.levels[k] ≠ 30000 ∧ a.levels[k] ≠ 30000
  · have hHb := hH b.levels[k] a.levels[k] (v - c.over) (by omega) (by omega) (by omega)
    have y1 := hf b.levels[k] a.levels[k] (v - c.over) (by omega) (by omega) (by omega)
    have hp := xprod_bd (s := b.side) (x := max 0 (H b.levels[k] a.levels[k] (v - c.over))) (by omega) (by omega)
    rw [if_pos hu]
    generalize H b.levels[k] a.levels[k] (v - c.over) = q at *
    refine contractM_of mix Tryz.func47 rfl rfl (by rw [Tryz.ntmps47]; exact Nat.le_of_ble_eq_true rfl) (by kernel_rfl) (rfl) rfl ?_; rw [Tryz.results47, Tryz.ntmps47]; simp only [argsE, Nat.reduceAdd]
    repeat' first
           | (with_reducible apply go_op)
           | (with_reducible apply go_next)
           | ((with_reducible (show evOp _ _ _ _ _ _)); first
             | ((with_reducible (show evOp _ (.move _) _ _ _ _)) ; first | ((with_reducible apply go_mv_int); rfl; rfl) | ((with_reducible apply go_mv_bool); rfl; rfl))
             | ((with_reducible (show evOp _ (.load _ _) _ _ _ _)) ; first | ((with_reducible apply go_ld_one); rfl; rfl; rfl) | ((with_reducible apply go_load); rfl; rfl; rfl))
             | (((with_reducible apply go_fieldAddr); rfl; rfl))
             | (((with_reducible apply go_index_nat); rfl; rfl; (with_reducible rfl); (intro; rfl); rfl; omega; (intro hlt)))
             | ((with_reducible (show evOp _ (.binOp _ _ _ _ _) _ _ _ _)) ; first | ((with_reducible apply go_cmp); rfl; rfl; rfl; rfl) | ((with_reducible apply go_add); rfl; rfl; rfl; omega) | ((with_reducible apply go_sub); rfl; rfl; rfl; omega) | ((with_reducible apply go_mul); rfl; rfl; rfl; omega))
             | (((with_reducible apply go_max); rfl; rfl; rfl))
             | (((with_reducible apply go_st_int); rfl; rfl; rfl))
             | (((with_reducible apply go_pick); rfl; rfl; rfl)))
           | ((with_reducible (show evOps _ _ _ _ _ _)); first
             | (with_reducible apply go_nil)
             | ((with_reducible apply go_run); rfl; rfl)
             | ((with_reducible apply go_pass); rfl; rfl; rfl)
             | (((with_reducible apply go_guard); rfl) <;> (intro h; simp only [h, Bool.not_true, Bool.not_false]; (try with_reducible (refine ⟨rfl, ?_⟩)); try simp only [decide_eq_true_eq, decide_eq_false_iff_not, Bool.not_eq_true', Bool.not_eq_false', Bool.not_true, Bool.not_false] at h; try exact absurd trivial h))
             | ((with_reducible apply go_pre); rfl)
             | ((with_reducible apply go_pre_stop); rfl)
             | ((with_reducible apply go_suf); rfl)
             | ((with_reducible apply go_suf_stop); rfl))
           | ((with_reducible (show evG _ _ _ _ _)); first
             | (with_reducible apply go_seq)
             | (with_reducible apply go_region)
             | ((with_reducible apply go_cond_f); rfl; rfl)
             | (((with_reducible apply go_cond); rfl) <;> (intro h; simp only [h]; try simp only [decide_eq_true_eq, decide_eq_false_iff_not, Bool.not_eq_true', Bool.not_eq_false', Bool.not_true, Bool.not_false] at h; try exact absurd trivial h))
             | ((with_reducible apply go_order); kernel_rfl; rfl)
             | (with_reducible apply go_skipc))
           | (with_reducible apply go_kseq)
           | (with_reducible apply go_ksuf)
           | ((with_reducible apply go_cloI); rfl; rfl; (exact y1); rfl)
    all_goals first
      | exact ⟨[], rfl, rfl, rfl⟩
      | (exfalso; omega)
      | trace_state
  · rw [if_neg hu, Int.add_zero]
    refine contractM_of mix Tryz.func47 rfl rfl (by rw [Tryz.ntmps47]; exact Nat.le_of_ble_eq_true rfl) (by kernel_rfl) (rfl) rfl ?_; rw [Tryz.results47, Tryz.ntmps47]; simp only [argsE, Nat.reduceAdd]
    repeat' first
           | (with_reducible apply go_op)
           | (with_reducible apply go_next)
           | ((with_reducible (show evOp _ _ _ _ _ _)); first
             | ((with_reducible (show evOp _ (.move _) _ _ _ _)) ; first | ((with_reducible apply go_mv_int); rfl; rfl) | ((with_reducible apply go_mv_bool); rfl; rfl))
             | ((with_reducible (show evOp _ (.load _ _) _ _ _ _)) ; first | ((with_reducible apply go_ld_one); rfl; rfl; rfl) | ((with_reducible apply go_load); rfl; rfl; rfl))
             | (((with_reducible apply go_fieldAddr); rfl; rfl))
             | (((with_reducible apply go_index_nat); rfl; rfl; (with_reducible rfl); (intro; rfl); rfl; omega; (intro hlt)))
             | ((with_reducible (show evOp _ (.binOp _ _ _ _ _) _ _ _ _)) ; first | ((with_reducible apply go_cmp); rfl; rfl; rfl; rfl) | ((with_reducible apply go_sub); rfl; rfl; rfl; omega) | ((with_reducible apply go_mul); rfl; rfl; rfl; omega))
             | (((with_reducible apply go_pick); rfl; rfl; rfl)))
           | ((with_reducible (show evOps _ _ _ _ _ _)); first
             | (with_reducible apply go_nil)
             | ((with_reducible apply go_run); rfl; rfl)
             | ((with_reducible apply go_pass); rfl; rfl; rfl)
             | (((with_reducible apply go_guard); rfl) <;> (intro h; simp only [h, Bool.not_true, Bool.not_false]; (try with_reducible (refine ⟨rfl, ?_⟩)); try simp only [decide_eq_true_eq, decide_eq_false_iff_not, Bool.not_eq_true', Bool.not_eq_false', Bool.not_true, Bool.not_false] at h; try exact absurd trivial h))
             | ((with_reducible apply go_pre); rfl))
           | ((with_reducible (show evG _ _ _ _ _)); first
             | (with_reducible apply go_seq)
             | (with_reducible apply go_region)
             | ((with_reducible apply go_cond_f); rfl; rfl)
             | (((with_reducible apply go_cond); rfl) <;> (intro h; simp only [h]; try simp only [decide_eq_true_eq, decide_eq_false_iff_not, Bool.not_eq_true', Bool.not_eq_false', Bool.not_true, Bool.not_false] at h; try exact absurd trivial h))
             | ((with_reducible apply go_order); kernel_rfl; rfl)
             | (with_reducible apply go_skipc))
           | (with_reducible apply go_kseq)
    all_goals first
      | exact ⟨[], rfl, rfl, rfl⟩
      | (exfalso; omega)
      | trace_state
end Go.Pv.Soil

open Go Go.Proofs Go.Pv
set_option maxHeartbeats 4000000
set_option maxRecDepth 100000
set_option linter.unusedVariables false
set_option linter.unusedSimpArgs false
namespace Go.Pv.Soil
noncomputable def remN (H : Int → Int → Int → Int) (c : Chan) (b a : Grid) : Int := dsum c b (fun k => remW H c b a (gV c b k) k) b.levels.length
theorem alike_lens {b a : Grid} (h : OkGrid b) (h' : OkGrid a) (e3 : alikeE b a = true) : a.levels.length = b.levels.length := by
  have e := of_decide_eq_true e3
  have h1 := h.len
  have h2 := h'.len
  rw [← e.2.2.2.1, ← e.2.2.2.2] at h2
  omega
theorem remW_bd {H : Int → Int → Int → Int} (hH : HOK H) {c : Chan} (hc : OkChan c) {b a : Grid} (h : OkGrid b) (h' : OkGrid a) (hlen : a.levels.length = b.levels.length) : ∀ k, k < b.levels.length → gB c b k = true → 0 ≤ remW H c b a (gV c b k) k ∧ remW H c b a (gV c b k) k ≤ 4000000000000 := by
  intro k hk hB
  have hov := hc.ov
  have hbd : c.over - 20000 ≤ gV c b k ∧ gV c b k ≤ 20000 := des_bd hc (gcen_ok h hk) (m := c.over - 20000) (by omega) (axis_low hc) hB
  have rm := h.rng k hk
  have ra := h'.rng k (by omega)
  have em := lv_get hk
  have ea := lv_get (l := a.levels) (i := k) (by omega)
  have hb := h.bds
  unfold remW
  rw [em] at rm ⊢
  rw [ea] at ra ⊢
  split
  · have hHb := hH b.levels[k] a.levels[k] (gV c b k - c.over) (by omega) (by omega) (by omega)
    have hp := xprod_bd (s := b.side) (x := max 0 (H b.levels[k] a.levels[k] (gV c b k - c.over))) (by omega) (by omega)
    exact hp.2
  · omega
theorem h_removed (H : Int → Int → Int → Int) (hH : HOK H) (f : FuncId) (hf : ∀ x y t, (-20000 ≤ x ∧ x ≤ 20000) → (-20000 ≤ y ∧ y ≤ 20000) → (-20000 ≤ t ∧ t ≤ 20000) → Contract Tryz.prog f [.int .i64 x, .int .i64 y, .int .i64 t] (.ret (.int .i64 (H x y t))))
    (c : Chan) (hc : OkChan c) (b a : Grid) (e1 : gridE b = 0) (e2 : gridE a = 0) (e3 : alikeE b a = true) :
    Contract Tryz.prog 27 [.agg (encChan c), .agg (encGrid b), .agg (encGrid a), .clo (.func f) [] []] (.ret (.tup [.int .i64 (remN H c b a), .int .i64 0])) := by
  have h := okGrid e1
  have h' := okGrid e2
  have hlen := alike_lens h h' e3
  have hsm := h.small
  have hov := hc.ov
  have y1 := h_three c hc b a (by omega) (by omega) e1 e2 e3
  have y2 := h_designed5 c hc b e1 47 (encGrid b) (encGrid a) [.clo (.func f) [] []] (encChan c) (fun k => remW H c b a (gV c b k) k) (remW_bd hH hc h h' hlen) fun k s hk hB hs => by
    have hbd : c.over - 20000 ≤ gV c b k ∧ gV c b k ≤ 20000 := des_bd hc (gcen_ok h hk) (m := c.over - 20000) (by omega) (axis_low hc) hB
    exact h_removed1 H hH f hf c hc b a h h' hlen (gV c b k) hbd k hk s hs
  refine contract_of mix Tryz.func27 rfl rfl (by rw [Tryz.ntmps27]; exact Nat.le_of_ble_eq_true rfl) ?_; rw [Tryz.results27, Tryz.ntmps27]; simp only [argsE, Nat.reduceAdd]
  repeat' first
           | ((with_reducible apply go_fn5); rfl; rfl; rfl; rfl; rfl; rfl)
           | ((with_reducible (show evG _ _ (.region 5 _ _) _ _)); (with_reducible apply go_regionM))
           | ((with_reducible apply (goM_callX (b := 416))); rfl; rfl; rfl; (exact rfl); rfl; rfl; (exact y2); rfl; rfl)
           | (with_reducible apply goM_op)
           | (with_reducible apply goM_next)
           | (with_reducible apply goM_nil)
           | (with_reducible apply go_op)
           | (with_reducible apply go_next)
           | ((with_reducible (show evOp _ _ _ _ _ _)); first
             | (((with_reducible apply go_mv_int); rfl; rfl))
             | ((with_reducible apply go_as))
             | ((with_reducible (show evOp _ (.load _ _) _ _ _ _)) ; first | ((with_reducible apply go_ld_agg); rfl; rfl; rfl; rfl) | ((with_reducible apply go_ld_one); rfl; rfl; rfl))
             | (((with_reducible apply go_cmp); rfl; rfl; rfl; rfl))
             | (((with_reducible apply go_fn_int); rfl; (exact y1); rfl))
             | (((with_reducible apply go_st_int); rfl; rfl; rfl))
             | ((with_reducible (show evOp _ (.box _ _) _ _ _ _)) ; first | ((with_reducible apply go_bx_clo); rfl; rfl) | ((with_reducible apply go_bx_agg); rfl; rfl; (exact Nat.le_of_ble_eq_true rfl); rfl; rfl))
             | (((with_reducible apply go_alloc); rfl; rfl; rfl)))
           | ((with_reducible (show evOps _ _ _ _ _ _)); first
             | (with_reducible apply go_nil))
           | ((with_reducible (show evG _ _ _ _ _)); first
             | (with_reducible apply go_seq)
             | (with_reducible apply go_region)
             | ((with_reducible apply go_cond_f); rfl; rfl)
             | (with_reducible apply go_ret)
             | (with_reducible apply go_skipc))
           | (with_reducible apply go_kseq)
           | ((with_reducible apply end_t2); rfl; rfl; rfl; rfl)
  all_goals first | (exfalso; omega) | rfl | trace_state
def paidH (x y t : Int) : Int := x - max y t
def overH (x y t : Int) : Int := min x t - y
theorem paidH_ok : HOK paidH := fun x y t _ _ _ => by unfold paidH; omega
theorem overH_ok : HOK overH := fun x y t _ _ _ => by unfold overH; omega
theorem h_Paid (c : Chan) (hc : OkChan c) (b a : Grid) (e1 : gridE b = 0) (e2 : gridE a = 0) (e3 : alikeE b a = true) :
    Contract Tryz.prog 15 [.agg (encChan c), .agg (encGrid b), .agg (encGrid a)] (.ret (.tup [.int .i64 (remN paidH c b a), .int .i64 0])) := by
  have y1 := h_removed paidH paidH_ok 28 (fun x y t _ _ _ => by
    unfold paidH
    refine contract_of mix Tryz.func28 rfl rfl (by rw [Tryz.ntmps28]; exact Nat.le_of_ble_eq_true rfl) ?_; rw [Tryz.results28, Tryz.ntmps28]; simp only [argsE, Nat.reduceAdd]
    repeat' first
           | (with_reducible apply go_op)
           | (with_reducible apply go_next)
           | ((with_reducible (show evOp _ _ _ _ _ _)); first
             | (((with_reducible apply go_mv_int); rfl; rfl))
             | ((with_reducible apply go_as))
             | (((with_reducible apply go_sub); rfl; rfl; rfl; omega))
             | (((with_reducible apply go_max); rfl; rfl; rfl)))
           | ((with_reducible (show evOps _ _ _ _ _ _)); first
             | (with_reducible apply go_nil))
           | ((with_reducible (show evG _ _ _ _ _)); first
             | (with_reducible apply go_seq)
             | (with_reducible apply go_region)
             | (with_reducible apply go_ret))
           | (with_reducible apply go_kseq)
           | ((with_reducible apply end_int); rfl)
           | (with_reducible rfl)
    all_goals first | (exfalso; omega) | rfl | trace_state) c hc b a e1 e2 e3
  refine contract_of mix Tryz.func15 rfl rfl (by rw [Tryz.ntmps15]; exact Nat.le_of_ble_eq_true rfl) ?_; rw [Tryz.results15, Tryz.ntmps15]; simp only [argsE, Nat.reduceAdd]
  repeat' first
           | (with_reducible apply go_op)
           | (with_reducible apply go_next)
           | ((with_reducible (show evOp _ _ _ _ _ _)); first
             | (((with_reducible apply go_mv_int); rfl; rfl))
             | ((with_reducible apply go_as))
             | (((with_reducible apply go_ld_agg); rfl; rfl; rfl; rfl))
             | (((with_reducible apply go_fn_plain); rfl; (exact y1); rfl; (exact Nat.le_of_ble_eq_true rfl); rfl))
             | (((with_reducible apply go_extract); rfl; rfl))
             | (((with_reducible apply go_bx_agg); rfl; rfl; (exact Nat.le_of_ble_eq_true rfl); rfl; rfl)))
           | ((with_reducible (show evOps _ _ _ _ _ _)); first
             | (with_reducible apply go_nil))
           | ((with_reducible (show evG _ _ _ _ _)); first
             | (with_reducible apply go_seq)
             | (with_reducible apply go_region)
             | (with_reducible apply go_ret))
           | (with_reducible apply go_kseq)
           | ((with_reducible apply end_t2); rfl; rfl; rfl; rfl)
  all_goals first | (exfalso; omega) | rfl | trace_state
theorem h_Overcut (c : Chan) (hc : OkChan c) (b a : Grid) (e1 : gridE b = 0) (e2 : gridE a = 0) (e3 : alikeE b a = true) :
    Contract Tryz.prog 17 [.agg (encChan c), .agg (encGrid b), .agg (encGrid a)] (.ret (.tup [.int .i64 (remN overH c b a), .int .i64 0])) := by
  have y1 := h_removed overH overH_ok 33 (fun x y t _ _ _ => by
    unfold overH
    refine contract_of mix Tryz.func33 rfl rfl (by rw [Tryz.ntmps33]; exact Nat.le_of_ble_eq_true rfl) ?_; rw [Tryz.results33, Tryz.ntmps33]; simp only [argsE, Nat.reduceAdd]
    repeat' first
           | (with_reducible apply go_op)
           | (with_reducible apply go_next)
           | ((with_reducible (show evOp _ _ _ _ _ _)); first
             | (((with_reducible apply go_mv_int); rfl; rfl))
             | ((with_reducible apply go_as))
             | (((with_reducible apply go_sub); rfl; rfl; rfl; omega))
             | (((with_reducible apply go_min); rfl; rfl; rfl)))
           | ((with_reducible (show evOps _ _ _ _ _ _)); first
             | (with_reducible apply go_nil))
           | ((with_reducible (show evG _ _ _ _ _)); first
             | (with_reducible apply go_seq)
             | (with_reducible apply go_region)
             | (with_reducible apply go_ret))
           | (with_reducible apply go_kseq)
           | ((with_reducible apply end_int); rfl)
           | (with_reducible rfl)
    all_goals first | (exfalso; omega) | rfl | trace_state) c hc b a e1 e2 e3
  refine contract_of mix Tryz.func17 rfl rfl (by rw [Tryz.ntmps17]; exact Nat.le_of_ble_eq_true rfl) ?_; rw [Tryz.results17, Tryz.ntmps17]; simp only [argsE, Nat.reduceAdd]
  repeat' first
           | (with_reducible apply go_op)
           | (with_reducible apply go_next)
           | ((with_reducible (show evOp _ _ _ _ _ _)); first
             | (((with_reducible apply go_mv_int); rfl; rfl))
             | ((with_reducible apply go_as))
             | (((with_reducible apply go_ld_agg); rfl; rfl; rfl; rfl))
             | (((with_reducible apply go_fn_plain); rfl; (exact y1); rfl; (exact Nat.le_of_ble_eq_true rfl); rfl))
             | (((with_reducible apply go_extract); rfl; rfl))
             | (((with_reducible apply go_bx_agg); rfl; rfl; (exact Nat.le_of_ble_eq_true rfl); rfl; rfl)))
           | ((with_reducible (show evOps _ _ _ _ _ _)); first
             | (with_reducible apply go_nil))
           | ((with_reducible (show evG _ _ _ _ _)); first
             | (with_reducible apply go_seq)
             | (with_reducible apply go_region)
             | (with_reducible apply go_ret))
           | (with_reducible apply go_kseq)
           | ((with_reducible apply end_t2); rfl; rfl; rfl; rfl)
  all_goals first | (exfalso; omega) | rfl | trace_state
end Go.Pv.Soil

open Go Go.Proofs Go.Pv
set_option maxHeartbeats 4000000
set_option maxRecDepth 100000
set_option linter.unusedVariables false
set_option linter.unusedSimpArgs false
namespace Go.Pv.Soil
def lowB (g t : List Int) (less : Int) (k : Nat) : Bool := decide (lv g k ≠ 30000 ∧ lv t k ≠ 30000 ∧ lv t k - less < lv g k)
/-- The first levels, not higher than others. -/
def lowL (g t : List Int) (less : Int) (i : Nat) : List Int := (List.range g.length).map fun k => if k < i ∧ lowB g t less k = true then lv t k - less else lv g k
theorem lowL_len (g t : List Int) (less : Int) (i : Nat) : (lowL g t less i).length = g.length := by simp [lowL]
theorem lowL_0 (g t : List Int) (less : Int) : lowL g t less 0 = g := by
  apply List.ext_getElem
  · simp [lowL]
  · intro k h1 h2
    simp [lowL, lv_get h2]
theorem lowL_yes {g t : List Int} {less : Int} {i : Nat} (hi : i < g.length) (h : lowB g t less i = true) : (lowL g t less i).set i (lv t i - less) = lowL g t less (i + 1) := by
  apply List.ext_getElem
  · simp [lowL]
  · intro k h1 h2
    simp only [lowL, List.getElem_set, List.getElem_map, List.getElem_range]
    by_cases e : i = k
    · subst e
      rw [if_pos rfl, if_pos ⟨by omega, h⟩]
    · rw [if_neg e]
      by_cases hk : k < i
      · simp [hk, show k < i + 1 by omega]
      · simp [hk, show ¬ k < i + 1 by omega]
theorem lowL_no {g t : List Int} {less : Int} {i : Nat} (h : lowB g t less i = false) : lowL g t less i = lowL g t less (i + 1) := by
  unfold lowL
  apply List.map_congr_left
  intro k _
  by_cases e : k = i
  · subst e
    simp [h]
  · by_cases hk : k < i
    · simp [hk, show k < i + 1 by omega]
    · simp [hk, show ¬ k < i + 1 by omega]
theorem h_lowered (g m : Grid) (less : Int) (hl : g.levels.length ≤ 1000000000) (hm : m.levels.length = g.levels.length) (hless : 0 ≤ less ∧ less ≤ 1000)
    (hbd : ∀ k, k < g.levels.length → -30000 ≤ lv m.levels k ∧ lv m.levels k ≤ 30000) :
    Contract Tryz.prog 12 [.agg (encGrid g), .agg (encGrid m), .int .i64 less] (.ret (.agg (encG5 g ++ [.fr 1 ((lowL g.levels m.levels less g.levels.length).map encInt)]))) := by
  have y1 := c91 g hl
  refine contract_of mix Tryz.func12 rfl rfl (by rw [Tryz.ntmps12]; exact Nat.le_of_ble_eq_true rfl) ?_; rw [Tryz.results12, Tryz.ntmps12]; simp only [argsE, Nat.reduceAdd]
  repeat' first
           | (with_reducible apply go_op)
           | (with_reducible apply go_next)
           | ((with_reducible (show evOp _ _ _ _ _ _)); first
             | (((with_reducible apply go_mv_int); rfl; rfl))
             | ((with_reducible apply go_as))
             | (((with_reducible apply go_ld_agg); rfl; rfl; rfl; rfl))
             | (((with_reducible apply (go_fn_agf (cs := encG5 g))); rfl; (exact y1); (exact scalInt); rfl; rfl; rfl; rfl; rfl))
             | (((with_reducible apply go_st_agg); rfl; rfl; rfl; rfl; rfl; rfl; rfl))
             | (((with_reducible apply go_bx_agg); rfl; rfl; (exact Nat.le_of_ble_eq_true rfl); rfl; rfl))
             | (((with_reducible apply go_alloc); rfl; rfl; rfl)))
           | ((with_reducible (show evOps _ _ _ _ _ _)); first
             | (with_reducible apply go_nil))
           | ((with_reducible (show evG _ _ _ _ _)); first
             | (with_reducible apply go_seq)
             | (with_reducible apply go_region)
             | (with_reducible apply go_block))
           | (with_reducible apply go_kseq)

  refine go_count g.levels.length (fun i => ⟨[(8, .int .i64 i), (7, .op 3 0 0), (3, .op 0 0 0), (4, .op 1 0 0), (2, .int .i64 less), (6, .op 2 0 0)], [(0, ⟨6, true, [encGrid g]⟩), (1, ⟨6, true, [encGrid m]⟩), (2, ⟨6, false, [[.int .i64 0, .int .i64 0, .int .i64 0, .int .i64 0, .int .i64 0, .nilsl]]⟩), (3, ⟨6, false, [encG5 g ++ [.os 4 0 g.levels.length]]⟩), (4, ⟨1, true, (lowL g.levels m.levels less i).map encInt⟩)], 32, 59⟩) (fun i => True)
    (entails_eq (nx := 32) (k := 0) (ns := []) (ks := [8, 7, 3, 4, 2, 6]) [(0, 0), (32, 1), (64, 2), (160, 3), (133, 4)] rfl (by simp) (by rw [lowL_0]; kernel_rfl)) trivial ?_
  intro i hi _
  have hle := lowL_len g.levels m.levels less i
  by_cases hlt : i < g.levels.length
  · have eg := lv_get hlt
    have em := lv_get (l := m.levels) (i := i) (by omega)
    have hb := hbd i hlt
    have hdec : lowB g.levels m.levels less i = decide (g.levels[i] ≠ 30000 ∧ m.levels[i]'(by omega) ≠ 30000 ∧ m.levels[i]'(by omega) - less < g.levels[i]) := by unfold lowB; rw [eg, em]
    rw [em] at hb
    cases hB : lowB g.levels m.levels less i with
    | true =>
      have hyes := lowL_yes hlt hB
      rw [hdec] at hB
      have hB' := of_decide_eq_true hB
      rw [em] at hyes
      repeat' first
           | (with_reducible apply go_op)
           | (with_reducible apply go_next)
           | ((with_reducible (show evOp _ _ _ _ _ _)); first
             | ((with_reducible (show evOp _ (.move _) _ _ _ _)) ; first | ((with_reducible apply go_mv_int); rfl; rfl) | ((with_reducible apply go_mv_bool); rfl; rfl))
             | ((with_reducible apply go_as))
             | ((with_reducible (show evOp _ (.load _ _) _ _ _ _)) ; first | ((with_reducible apply go_ld_agg); rfl; rfl; rfl; rfl) | ((with_reducible apply go_load); rfl; rfl; rfl) | ((with_reducible apply go_load_own); rfl; rfl; rfl; rfl))
             | (((with_reducible apply go_fieldAddr_own); rfl; rfl; rfl))
             | ((with_reducible (show evOp _ (.indexAddr _ _ _) _ _ _ _)) ; first | ((with_reducible apply go_index_nat); rfl; rfl; (with_reducible rfl); (intro; rfl); rfl; omega; (intro hlt)) | ((with_reducible apply go_index_om); rfl; rfl; rfl; (with_reducible rfl); rfl; rfl; omega; (intro hlt)))
             | ((with_reducible (show evOp _ (.binOp _ _ _ _ _) _ _ _ _)) ; first | ((with_reducible apply go_cmp); rfl; rfl; rfl; rfl) | ((with_reducible apply go_add); rfl; rfl; rfl; omega) | ((with_reducible apply go_sub); rfl; rfl; rfl; omega))
             | (((with_reducible apply go_len_own); rfl; rfl; rfl))
             | (((with_reducible apply go_st_agg); rfl; rfl; rfl; rfl; rfl; rfl; rfl))
             | (((with_reducible apply go_pick); rfl; rfl; rfl)))
           | ((with_reducible (show evOps _ _ _ _ _ _)); first
             | (with_reducible apply go_nil)
             | ((with_reducible apply go_run); rfl; rfl)
             | ((with_reducible apply go_pass); rfl; rfl; rfl)
             | (((with_reducible apply go_guard); rfl) <;> (intro h; simp only [h, Bool.not_true, Bool.not_false]; (try with_reducible (refine ⟨rfl, ?_⟩)); try simp only [decide_eq_true_eq, decide_eq_false_iff_not, Bool.not_eq_true', Bool.not_eq_false', Bool.not_true, Bool.not_false] at h; try exact absurd trivial h))
             | ((with_reducible apply go_pre); rfl)
             | ((with_reducible apply go_pre_stop); rfl)
             | (with_reducible apply go_pre_nil)
             | ((with_reducible apply go_suf); rfl)
             | ((with_reducible apply go_suf_stop); rfl)
             | (with_reducible apply go_suf_nil))
           | ((with_reducible (show evG _ _ _ _ _)); first
             | (with_reducible apply go_seq)
             | (with_reducible apply go_region)
             | ((with_reducible apply go_cond_f); rfl; rfl)
             | (((with_reducible apply go_cond); rfl) <;> (intro h; simp only [h]; try simp only [decide_eq_true_eq, decide_eq_false_iff_not, Bool.not_eq_true', Bool.not_eq_false', Bool.not_true, Bool.not_false] at h; try exact absurd trivial h))
             | ((with_reducible apply go_order); kernel_rfl; rfl)
             | (with_reducible apply go_ret)
             | (with_reducible apply go_skipc)
             | (with_reducible apply go_block)
             | (with_reducible apply go_exit))
           | (with_reducible apply go_kseq)
           | (with_reducible apply go_ksuf)
           | (with_reducible apply go_kblock)
           | (with_reducible apply go_kblock_exit)
           | (with_reducible apply go_kseq_exit)
      all_goals try (exfalso; omega)
      refine go_store_om (f := encInt) (l := lowL g.levels m.levels less i) (a := m.levels[i]'(by omega) - less) rfl rfl rfl (by omega) rfl rfl rfl rfl (Nat.le_refl _) rfl ?_
      repeat' first
           | (with_reducible apply go_op)
           | (with_reducible apply go_next)
           | ((with_reducible (show evOp _ _ _ _ _ _)); first
             | (((with_reducible apply go_mv_int); rfl; rfl))
             | ((with_reducible apply go_as))
             | (((with_reducible apply go_add); rfl; rfl; rfl; omega)))
           | ((with_reducible (show evOps _ _ _ _ _ _)); first
             | (with_reducible apply go_nil))
           | ((with_reducible (show evG _ _ _ _ _)); first
             | (with_reducible apply go_region))
           | (with_reducible apply go_kseq)
           | (with_reducible apply go_kblock)
      refine ⟨by omega, trivial, ?_⟩
      rw [hyes]
      exact entails_eq (nx := 32) (k := 0) (ns := []) (ks := [8, 7, 3, 4, 2, 6]) [(0, 0), (1, 1), (2, 2), (3, 3), (4, 4)] rfl (by simp) (by kernel_rfl)
    | false =>
      have hno := lowL_no hB
      rw [hdec] at hB
      have hB' := of_decide_eq_false hB
      rw [hno]
      repeat' first
           | (with_reducible apply go_op)
           | (with_reducible apply go_next)
           | ((with_reducible (show evOp _ _ _ _ _ _)); first
             | ((with_reducible (show evOp _ (.move _) _ _ _ _)) ; first | ((with_reducible apply go_mv_int); rfl; rfl) | ((with_reducible apply go_mv_bool); rfl; rfl))
             | ((with_reducible apply go_as))
             | ((with_reducible (show evOp _ (.load _ _) _ _ _ _)) ; first | ((with_reducible apply go_ld_agg); rfl; rfl; rfl; rfl) | ((with_reducible apply go_load); rfl; rfl; rfl) | ((with_reducible apply go_load_own); rfl; rfl; rfl; rfl))
             | (((with_reducible apply go_fieldAddr_own); rfl; rfl; rfl))
             | ((with_reducible (show evOp _ (.indexAddr _ _ _) _ _ _ _)) ; first | ((with_reducible apply go_index_nat); rfl; rfl; (with_reducible rfl); (intro; rfl); rfl; omega; (intro hlt)) | ((with_reducible apply go_index_om); rfl; rfl; rfl; (with_reducible rfl); rfl; rfl; omega; (intro hlt)))
             | ((with_reducible (show evOp _ (.binOp _ _ _ _ _) _ _ _ _)) ; first | ((with_reducible apply go_cmp); rfl; rfl; rfl; rfl) | ((with_reducible apply go_add); rfl; rfl; rfl; omega) | ((with_reducible apply go_sub); rfl; rfl; rfl; omega))
             | (((with_reducible apply go_len_own); rfl; rfl; rfl))
             | ((with_reducible (show evOp _ (.store _ _ _) _ _ _ _)) ; first | ((with_reducible apply go_st_agg); rfl; rfl; rfl; rfl; rfl; rfl; rfl) | ((with_reducible apply go_store); rfl; rfl; rfl; rfl; rfl; rfl; (exact Nat.le_of_ble_eq_true rfl); (first | exact Nat.le_of_ble_eq_true rfl | omega); rfl; rfl))
             | (((with_reducible apply go_pick); rfl; rfl; rfl)))
           | ((with_reducible (show evOps _ _ _ _ _ _)); first
             | (with_reducible apply go_nil)
             | ((with_reducible apply go_run); rfl; rfl)
             | ((with_reducible apply go_pass); rfl; rfl; rfl)
             | (((with_reducible apply go_guard); rfl) <;> (intro h; simp only [h, Bool.not_true, Bool.not_false]; (try with_reducible (refine ⟨rfl, ?_⟩)); try simp only [decide_eq_true_eq, decide_eq_false_iff_not, Bool.not_eq_true', Bool.not_eq_false', Bool.not_true, Bool.not_false] at h; try exact absurd trivial h))
             | ((with_reducible apply go_pre); rfl)
             | ((with_reducible apply go_pre_stop); rfl)
             | (with_reducible apply go_pre_nil)
             | ((with_reducible apply go_suf); rfl)
             | ((with_reducible apply go_suf_stop); rfl)
             | (with_reducible apply go_suf_nil))
           | ((with_reducible (show evG _ _ _ _ _)); first
             | (with_reducible apply go_seq)
             | (with_reducible apply go_region)
             | ((with_reducible apply go_cond_f); rfl; rfl)
             | (((with_reducible apply go_cond); rfl) <;> (intro h; simp only [h]; try simp only [decide_eq_true_eq, decide_eq_false_iff_not, Bool.not_eq_true', Bool.not_eq_false', Bool.not_true, Bool.not_false] at h; try exact absurd trivial h))
             | ((with_reducible apply go_order); kernel_rfl; rfl)
             | (with_reducible apply go_ret)
             | (with_reducible apply go_skipc)
             | (with_reducible apply go_block)
             | (with_reducible apply go_exit))
           | (with_reducible apply go_kseq)
           | (with_reducible apply go_ksuf)
           | (with_reducible apply go_kblock)
           | (with_reducible apply go_kblock_exit)
           | (with_reducible apply go_kseq_exit)
      all_goals try (exfalso; omega)
      all_goals
        refine ⟨by omega, trivial, ?_⟩
        exact entails_eq (nx := 32) (k := 0) (ns := []) (ks := [8, 7, 3, 4, 2, 6]) [(0, 0), (1, 1), (2, 2), (3, 3), (4, 4)] rfl (by simp) (by kernel_rfl)
  · have e : i = g.levels.length := by omega
    subst e
    repeat' first
           | (with_reducible apply go_op)
           | (with_reducible apply go_next)
           | ((with_reducible (show evOp _ _ _ _ _ _)); first
             | ((with_reducible (show evOp _ (.move _) _ _ _ _)) ; first | ((with_reducible apply go_mv_int); rfl; rfl) | ((with_reducible apply go_mv_bool); rfl; rfl))
             | ((with_reducible apply go_as))
             | ((with_reducible (show evOp _ (.load _ _) _ _ _ _)) ; first | ((with_reducible apply go_ld_agg); rfl; rfl; rfl; rfl) | ((with_reducible apply go_load); rfl; rfl; rfl) | ((with_reducible apply go_load_own); rfl; rfl; rfl; rfl))
             | (((with_reducible apply go_fieldAddr_own); rfl; rfl; rfl))
             | ((with_reducible (show evOp _ (.indexAddr _ _ _) _ _ _ _)) ; first | ((with_reducible apply go_index_nat); rfl; rfl; (with_reducible rfl); (intro; rfl); rfl; omega; (intro hlt)) | ((with_reducible apply go_index_om); rfl; rfl; rfl; (with_reducible rfl); rfl; rfl; omega; (intro hlt)))
             | ((with_reducible (show evOp _ (.binOp _ _ _ _ _) _ _ _ _)) ; first | ((with_reducible apply go_cmp); rfl; rfl; rfl; rfl) | ((with_reducible apply go_add); rfl; rfl; rfl; omega) | ((with_reducible apply go_sub); rfl; rfl; rfl; omega))
             | (((with_reducible apply go_len_own); rfl; rfl; rfl))
             | ((with_reducible (show evOp _ (.store _ _ _) _ _ _ _)) ; first | ((with_reducible apply go_st_agg); rfl; rfl; rfl; rfl; rfl; rfl; rfl) | ((with_reducible apply go_store); rfl; rfl; rfl; rfl; rfl; rfl; (exact Nat.le_of_ble_eq_true rfl); (first | exact Nat.le_of_ble_eq_true rfl | omega); rfl; rfl))
             | (((with_reducible apply go_pick); rfl; rfl; rfl)))
           | ((with_reducible (show evOps _ _ _ _ _ _)); first
             | (with_reducible apply go_nil)
             | ((with_reducible apply go_run); rfl; rfl)
             | ((with_reducible apply go_pass); rfl; rfl; rfl)
             | (((with_reducible apply go_guard); rfl) <;> (intro h; simp only [h, Bool.not_true, Bool.not_false]; (try with_reducible (refine ⟨rfl, ?_⟩)); try simp only [decide_eq_true_eq, decide_eq_false_iff_not, Bool.not_eq_true', Bool.not_eq_false', Bool.not_true, Bool.not_false] at h; try exact absurd trivial h))
             | ((with_reducible apply go_pre); rfl)
             | ((with_reducible apply go_pre_stop); rfl)
             | (with_reducible apply go_pre_nil)
             | ((with_reducible apply go_suf); rfl)
             | ((with_reducible apply go_suf_stop); rfl)
             | (with_reducible apply go_suf_nil))
           | ((with_reducible (show evG _ _ _ _ _)); first
             | (with_reducible apply go_seq)
             | (with_reducible apply go_region)
             | ((with_reducible apply go_cond_f); rfl; rfl)
             | (((with_reducible apply go_cond); rfl) <;> (intro h; simp only [h]; try simp only [decide_eq_true_eq, decide_eq_false_iff_not, Bool.not_eq_true', Bool.not_eq_false', Bool.not_true, Bool.not_false] at h; try exact absurd trivial h))
             | ((with_reducible apply go_order); kernel_rfl; rfl)
             | (with_reducible apply go_ret)
             | (with_reducible apply go_skipc)
             | (with_reducible apply go_block)
             | (with_reducible apply go_exit))
           | (with_reducible apply go_kseq)
           | (with_reducible apply go_ksuf)
           | (with_reducible apply go_kblock)
           | (with_reducible apply go_kblock_exit)
           | (with_reducible apply go_kseq_exit)
    all_goals first
      | (exfalso; omega)
      | exact finK_ret (fin_agf (cs := encG5 g) (len := g.levels.length) rfl rfl (by simp [lowL_len]) rfl)
      | trace_state
end Go.Pv.Soil

open Go Go.Proofs Go.Pv
set_option maxHeartbeats 4000000
set_option maxRecDepth 100000
set_option linter.unusedVariables false
set_option linter.unusedSimpArgs false
namespace Go.Pv.Soil
theorem sumN_congr {f f' : Nat → Int} : ∀ n, (∀ k, k < n → f k = f' k) → sumN f n = sumN f' n
  | 0, _ => rfl
  | n + 1, h => by
    show sumN f n + f n = sumN f' n + f' n
    rw [sumN_congr n fun k hk => h k (by omega), h n (by omega)]
theorem sumN_zero {f : Nat → Int} : ∀ n, (∀ k, k < n → f k = 0) → sumN f n = 0
  | 0, _ => rfl
  | n + 1, h => by
    show sumN f n + f n = 0
    rw [sumN_zero n fun k hk => h k (by omega), h n (by omega)]
    rfl
theorem sumN_add {f f' f2 : Nat → Int} : ∀ n, (∀ k, k < n → f2 k = f k + f' k) → sumN f2 n = sumN f n + sumN f' n
  | 0, _ => rfl
  | n + 1, h => by
    show sumN f2 n + f2 n = sumN f n + f n + (sumN f' n + f' n)
    rw [sumN_add n fun k hk => h k (by omega), h n (by omega)]
    omega
theorem sumN_le {f f' : Nat → Int} : ∀ n, (∀ k, k < n → f k ≤ f' k) → sumN f n ≤ sumN f' n
  | 0, _ => Int.le_refl _
  | n + 1, h => by
    show sumN f n + f n ≤ sumN f' n + f' n
    have := sumN_le n fun k hk => h k (show k < n + 1 by omega)
    have := h n (by omega)
    omega
theorem cutN_sum (m a : Grid) : ∀ n, cutN m a n = sumN (fun k => if lv m.levels k ≠ 30000 ∧ lv a.levels k ≠ 30000 then m.side * m.side * dE (lv a.levels k) (lv m.levels k) else 0) n
  | 0 => rfl
  | n + 1 => by
    show cutN m a n + _ = sumN _ n + _
    rw [cutN_sum m a n]
theorem fillN_sum (m a : Grid) : ∀ n, fillN m a n = sumN (fun k => if lv m.levels k ≠ 30000 ∧ lv a.levels k ≠ 30000 then m.side * m.side * dE (lv m.levels k) (lv a.levels k) else 0) n
  | 0 => rfl
  | n + 1 => by
    show fillN m a n + _ = sumN _ n + _
    rw [fillN_sum m a n]
theorem lv_range {n k : Nat} {f : Nat → Int} (h : k < n) : lv ((List.range n).map f) k = f k := by
  simp [lv, List.getD, h]
def withL (g : Grid) (l : List Int) : Grid := ⟨g.x, g.y, g.side, g.cols, g.rows, l⟩
theorem gridE_with {g : Grid} (h0 : gridE g = 0) {l : List Int} (hl : l.length = g.levels.length) (hv : ∀ k, k < l.length → lv l k = 30000 ∨ (-20000 ≤ lv l k ∧ lv l k ≤ 20000)) : gridE (withL g l) = 0 := by
  have h := okGrid h0
  unfold gridE at h0 ⊢
  have hb := h.bds
  rw [if_neg (fun hh => hh hb), if_neg (by have := h.cells; simp only [withL]; omega), if_neg (by have := h.ends; simp only [withL]; omega), if_neg (by have := h.len; simp only [withL]; omega), if_neg]
  rw [List.any_eq_true]
  rintro ⟨x, hx, hbad⟩
  obtain ⟨k, hk, rfl⟩ := List.mem_iff_getElem.1 hx
  have h1 := hv k hk
  have hk' : k < l.length := hk
  rw [lv_get hk'] at h1
  have hbad : badLv l[k] = true := hbad
  simp only [badLv, lvOK, Bool.and_eq_true, decide_eq_true_eq, Bool.not_eq_true', decide_eq_false_iff_not] at hbad
  omega
/-- What is asked of a design, cell by cell. -/
structure SetUp (c : Chan) (g : Grid) (more : Int) : Prop where
  hc : OkChan c
  h0 : gridE g = 0
  low : ∀ a ∈ c.axis, -10000 ≤ a.level
  more : 0 ≤ more ∧ more ≤ 1000
theorem SetUp.vb {c : Chan} {g : Grid} {more : Int} (s : SetUp c g more) {k : Nat} (hk : k < g.levels.length) (h : gB c g k = true) : -10000 ≤ gV c g k ∧ gV c g k ≤ 20000 :=
  des_bd s.hc (gcen_ok (okGrid s.h0) hk) (by omega) s.low h
theorem SetUp.xb {c : Chan} {g : Grid} {more : Int} (s : SetUp c g more) {k : Nat} (hk : k < g.levels.length) : lv g.levels k ≠ 30000 → -20000 ≤ lv g.levels k ∧ lv g.levels k ≤ 20000 := (okGrid s.h0).rng k hk
noncomputable def bedL (c : Chan) (g : Grid) (off more : Int) : List Int := lowL g.levels (dgL c g off g.levels.length) more g.levels.length
noncomputable def bedG (c : Chan) (g : Grid) (off more : Int) : Grid := withL g (bedL c g off more)
theorem dgL_lv {c : Chan} {g : Grid} {off : Int} {k : Nat} (hk : k < g.levels.length) : lv (dgL c g off g.levels.length) k = if gB c g k = true then gV c g k - off else 30000 := by
  unfold dgL
  rw [lv_range hk]
  simp [hk]
theorem bedL_len (c : Chan) (g : Grid) (off more : Int) : (bedL c g off more).length = g.levels.length := lowL_len ..
/-- The level of a dredged cell. -/
theorem SetUp.lvl {c : Chan} {g : Grid} {more : Int} (s : SetUp c g more) {k : Nat} (hk : k < g.levels.length) {off m : Int} (ho : 0 ≤ off ∧ off ≤ 1000) : lv (bedL c g off m) k = if gB c g k = true ∧ lv g.levels k ≠ 30000 ∧ gV c g k - off - m < lv g.levels k then gV c g k - off - m else lv g.levels k := by
  unfold bedL lowL
  rw [lv_range hk]
  have e := dgL_lv (c := c) (off := off) hk
  unfold lowB
  rw [e]
  by_cases hB : gB c g k = true
  · have hv := s.vb hk hB
    rw [if_pos hB]
    by_cases hq : lv g.levels k ≠ 30000 ∧ gV c g k - off - m < lv g.levels k
    · rw [if_pos ⟨hk, decide_eq_true ⟨hq.1, by omega, hq.2⟩⟩, if_pos ⟨hB, hq⟩]
    · rw [if_neg (fun h' => hq ⟨(of_decide_eq_true h'.2).1, (of_decide_eq_true h'.2).2.2⟩), if_neg (fun h' => hq h'.2)]
  · rw [if_neg hB, if_neg (fun h' => (of_decide_eq_true h'.2).2.1 rfl), if_neg (fun h' => hB h'.1)]
theorem SetUp.grid {c : Chan} {g : Grid} {more : Int} (s : SetUp c g more) {off m : Int} (ho : 0 ≤ off ∧ off ≤ 1000) (hm : 0 ≤ m ∧ m ≤ 1000) : gridE (bedG c g off m) = 0 := by
  refine gridE_with s.h0 (bedL_len ..) fun k hk => ?_
  rw [bedL_len] at hk
  rw [s.lvl hk ho]
  have hx := s.xb hk
  split
  · rename_i hh
    have := s.vb hk hh.1
    omega
  · by_cases h3 : lv g.levels k = 30000
    · exact .inl h3
    · exact .inr (hx h3)
theorem bed_alike (c : Chan) (g : Grid) (off m : Int) : alikeE g (bedG c g off m) = true := decide_eq_true ⟨rfl, rfl, rfl, rfl, rfl⟩
end Go.Pv.Soil

open Go Go.Proofs Go.Pv
set_option maxHeartbeats 4000000
set_option maxRecDepth 100000
set_option linter.unusedVariables false
set_option linter.unusedSimpArgs false
namespace Go.Pv.Soil
theorem SetUp.w0 {c : Chan} {g : Grid} {more : Int} (s : SetUp c g more) {k : Nat} (hk : k < g.levels.length) : lv g.levels k = 30000 ∨ (-20000 ≤ lv g.levels k ∧ lv g.levels k ≤ 20000) := by
  have := s.xb hk
  by_cases h3 : lv g.levels k = 30000
  · exact .inl h3
  · exact .inr (this h3)
noncomputable def needC (c : Chan) (g : Grid) (k : Nat) : Int := if gB c g k = true ∧ lv g.levels k ≠ 30000 then g.side * g.side * max 0 (lv g.levels k - gV c g k) else 0
noncomputable def mostC (c : Chan) (g : Grid) (k : Nat) : Int := if gB c g k = true ∧ lv g.levels k ≠ 30000 then g.side * g.side * max 0 (lv g.levels k - (gV c g k - c.over)) else 0
noncomputable def wastC (c : Chan) (g : Grid) (more : Int) (k : Nat) : Int := if gB c g k = true ∧ lv g.levels k ≠ 30000 then g.side * g.side * max 0 (min (lv g.levels k) (gV c g k - c.over) - lv (bedL c g c.over more) k) else 0
noncomputable def needT (c : Chan) (g : Grid) : Int := sumN (needC c g) g.levels.length
noncomputable def mostT (c : Chan) (g : Grid) : Int := sumN (mostC c g) g.levels.length
noncomputable def wastT (c : Chan) (g : Grid) (more : Int) : Int := sumN (wastC c g more) g.levels.length
theorem need_eq (c : Chan) (g : Grid) : needN c g = needT c g := by
  refine sumN_congr _ fun k hk => ?_
  show (if gB c g k = true then (if lv g.levels k ≠ 30000 then g.side * g.side * max 0 (lv g.levels k - gV c g k) else 0) else 0) = needC c g k
  unfold needC
  by_cases hB : gB c g k = true
  · rw [if_pos hB]
    by_cases hx : lv g.levels k ≠ 30000
    · rw [if_pos hx, if_pos ⟨hB, hx⟩]
    · rw [if_neg hx, if_neg (fun h => hx h.2)]
  · rw [if_neg hB, if_neg (fun h => hB h.1)]
theorem SetUp.left {c : Chan} {g : Grid} {more : Int} (s : SetUp c g more) : needN c (bedG c g 0 0) = 0 := by
  show sumN _ (bedL c g 0 0).length = 0
  rw [bedL_len]
  refine sumN_zero _ fun k hk => ?_
  show (if gB c g k = true then (if lv (bedL c g 0 0) k ≠ 30000 then g.side * g.side * max 0 (lv (bedL c g 0 0) k - gV c g k) else 0) else 0) = 0
  have hl := s.lvl hk (off := 0) (m := 0) (by omega)
  split
  · rename_i hB
    split
    · rename_i hu
      have hx := s.w0 hk
      have hv := s.vb hk hB
      rw [hl] at hu ⊢
      rw [show max 0 ((if gB c g k = true ∧ lv g.levels k ≠ 30000 ∧ gV c g k - 0 - 0 < lv g.levels k then gV c g k - 0 - 0 else lv g.levels k) - gV c g k) = 0 by
        split
        · omega
        · rename_i hh
          rw [if_neg hh] at hu
          have : ¬ gV c g k - 0 - 0 < lv g.levels k := fun h => hh ⟨hB, hu, h⟩
          omega, Int.mul_zero]
    · rfl
  · rfl
theorem SetUp.open' {c : Chan} {g : Grid} {more : Int} (s : SetUp c g more) : ∀ k, k < (bedG c g 0 0).levels.length → gB c (bedG c g 0 0) k = true → lv (bedG c g 0 0).levels k ≠ 30000 → lv (bedG c g 0 0).levels k ≤ gV c (bedG c g 0 0) k := by
  intro k hk hB hu
  have hk : k < (bedL c g 0 0).length := hk
  rw [bedL_len] at hk
  have hB : gB c g k = true := hB
  have hu : lv (bedL c g 0 0) k ≠ 30000 := hu
  show lv (bedL c g 0 0) k ≤ gV c g k
  have hl := s.lvl hk (off := 0) (m := 0) (by omega)
  rw [hl] at hu ⊢
  split
  · omega
  · rename_i hh
    rw [if_neg hh] at hu
    have : ¬ gV c g k - 0 - 0 < lv g.levels k := fun h => hh ⟨hB, hu, h⟩
    omega
/-- What is paid for a dredged bed, cell by cell. -/
theorem SetUp.rem {H : Int → Int → Int → Int} {c : Chan} {g : Grid} {more : Int} (s : SetUp c g more) {off m : Int} (ho : 0 ≤ off ∧ off ≤ 1000) (hm : 0 ≤ m ∧ m ≤ 1000) {f : Nat → Int}
    (hf : ∀ k, k < g.levels.length → gB c g k = true → lv g.levels k ≠ 30000 → f k = g.side * g.side * max 0 (H (lv g.levels k) (if gV c g k - off - m < lv g.levels k then gV c g k - off - m else lv g.levels k) (gV c g k - c.over)))
    (hf' : ∀ k, k < g.levels.length → ¬ (gB c g k = true ∧ lv g.levels k ≠ 30000) → f k = 0) : remN H c g (bedG c g off m) = sumN f g.levels.length := by
  refine sumN_congr _ fun k hk => ?_
  show (if gB c g k = true then (if lv g.levels k ≠ 30000 ∧ lv (bedL c g off m) k ≠ 30000 then g.side * g.side * max 0 (H (lv g.levels k) (lv (bedL c g off m) k) (gV c g k - c.over)) else 0) else 0) = f k
  have hl := s.lvl hk (off := off) (m := m) ho
  by_cases hq : gB c g k = true ∧ lv g.levels k ≠ 30000
  · have hv := s.vb hk hq.1
    rw [hf k hk hq.1 hq.2, if_pos hq.1]
    have e : lv (bedL c g off m) k = if gV c g k - off - m < lv g.levels k then gV c g k - off - m else lv g.levels k := by
      rw [hl]
      by_cases h1 : gV c g k - off - m < lv g.levels k
      · rw [if_pos ⟨hq.1, hq.2, h1⟩, if_pos h1]
      · rw [if_neg (fun h => h1 h.2.2), if_neg h1]
    rw [if_pos ⟨hq.2, by rw [e]; split <;> omega⟩, e]
  · rw [hf' k hk hq]
    split
    · rename_i hB
      rw [if_neg (fun h => hq ⟨hB, h.1⟩)]
    · rfl
/-- What the comparison says of a dredged bed, cell by cell. -/
theorem SetUp.cut {c : Chan} {g : Grid} {more : Int} (s : SetUp c g more) {off m : Int} (ho : 0 ≤ off ∧ off ≤ 1000) (hm : 0 ≤ m ∧ m ≤ 1000) {f : Nat → Int}
    (hf : ∀ k, k < g.levels.length → gB c g k = true → lv g.levels k ≠ 30000 → f k = g.side * g.side * (if gV c g k - off - m < lv g.levels k then lv g.levels k - (gV c g k - off - m) else 0))
    (hf' : ∀ k, k < g.levels.length → ¬ (gB c g k = true ∧ lv g.levels k ≠ 30000) → f k = 0) : cutN g (bedG c g off m) g.levels.length = sumN f g.levels.length := by
  rw [cutN_sum]
  refine sumN_congr _ fun k hk => ?_
  show (if lv g.levels k ≠ 30000 ∧ lv (bedL c g off m) k ≠ 30000 then g.side * g.side * dE (lv (bedL c g off m) k) (lv g.levels k) else 0) = f k
  have hl := s.lvl hk (off := off) (m := m) ho
  have hx := s.w0 hk
  by_cases hq : gB c g k = true ∧ lv g.levels k ≠ 30000
  · have hv := s.vb hk hq.1
    rw [hf k hk hq.1 hq.2]
    by_cases h1 : gV c g k - off - m < lv g.levels k
    · rw [if_pos ⟨hq.1, hq.2, h1⟩] at hl
      rw [hl, if_pos ⟨hq.2, by omega⟩, if_pos h1]
      congr 1
      unfold dE
      omega
    · rw [if_neg (fun h => h1 h.2.2)] at hl
      rw [hl, if_pos ⟨hq.2, hq.2⟩, if_neg h1]
      congr 1
      unfold dE
      omega
  · rw [hf' k hk hq]
    rw [if_neg (fun h => hq ⟨h.1, h.2.1⟩)] at hl
    rw [hl]
    split
    · rw [show dE (lv g.levels k) (lv g.levels k) = 0 by unfold dE; omega, Int.mul_zero]
    · rfl
theorem SetUp.fill {c : Chan} {g : Grid} {more : Int} (s : SetUp c g more) {off m : Int} (ho : 0 ≤ off ∧ off ≤ 1000) (hm : 0 ≤ m ∧ m ≤ 1000) : fillN g (bedG c g off m) g.levels.length = 0 := by
  rw [fillN_sum]
  refine sumN_zero _ fun k hk => ?_
  show (if lv g.levels k ≠ 30000 ∧ lv (bedL c g off m) k ≠ 30000 then g.side * g.side * dE (lv g.levels k) (lv (bedL c g off m) k) else 0) = 0
  have hl := s.lvl hk (off := off) (m := m) ho
  rw [show dE (lv g.levels k) (lv (bedL c g off m) k) = 0 by
    rw [hl]
    unfold dE
    split <;> omega, Int.mul_zero]
  split <;> rfl
theorem SetUp.paid1 {c : Chan} {g : Grid} {more : Int} (s : SetUp c g more) : remN paidH c g (bedG c g 0 0) = needT c g := by
  have hov := s.hc.ov
  refine s.rem (by omega) (by omega) (fun k hk hB hx => ?_) fun k hk hq => if_neg hq
  unfold needC paidH
  rw [if_pos ⟨hB, hx⟩]
  congr 1
  split <;> omega
theorem SetUp.cut1 {c : Chan} {g : Grid} {more : Int} (s : SetUp c g more) : cutN g (bedG c g 0 0) g.levels.length = needT c g := by
  refine s.cut (by omega) (by omega) (fun k hk hB hx => ?_) fun k hk hq => if_neg hq
  unfold needC
  rw [if_pos ⟨hB, hx⟩]
  congr 1
  split <;> omega
theorem SetUp.paid2 {c : Chan} {g : Grid} {more : Int} (s : SetUp c g more) : remN paidH c g (bedG c g c.over 0) = mostT c g := by
  have hov := s.hc.ov
  refine s.rem (by omega) (by omega) (fun k hk hB hx => ?_) fun k hk hq => if_neg hq
  unfold mostC paidH
  rw [if_pos ⟨hB, hx⟩]
  congr 1
  split <;> omega
theorem SetUp.over2 {c : Chan} {g : Grid} {more : Int} (s : SetUp c g more) : remN overH c g (bedG c g c.over 0) = 0 := by
  have hov := s.hc.ov
  refine Eq.trans (s.rem (f := fun _ => 0) (by omega) (by omega) (fun k hk hB hx => ?_) fun k hk hq => rfl) (sumN_zero _ fun _ _ => rfl)
  unfold overH
  rw [show max 0 (min (lv g.levels k) (gV c g k - c.over) - if gV c g k - c.over - 0 < lv g.levels k then gV c g k - c.over - 0 else lv g.levels k) = 0 by split <;> omega, Int.mul_zero]
theorem SetUp.cut2 {c : Chan} {g : Grid} {more : Int} (s : SetUp c g more) : cutN g (bedG c g c.over 0) g.levels.length = mostT c g := by
  have hov := s.hc.ov
  refine s.cut (by omega) (by omega) (fun k hk hB hx => ?_) fun k hk hq => if_neg hq
  unfold mostC
  rw [if_pos ⟨hB, hx⟩]
  congr 1
  split <;> omega
theorem SetUp.le {c : Chan} {g : Grid} {more : Int} (s : SetUp c g more) : needT c g ≤ mostT c g := by
  have hov := s.hc.ov
  have hb := (okGrid s.h0).bds
  refine sumN_le _ fun k hk => ?_
  unfold needC mostC
  split
  · exact Int.mul_le_mul_of_nonneg_left (by omega) (Int.mul_nonneg (by omega) (by omega))
  · exact Int.le_refl _
theorem SetUp.paid3 {c : Chan} {g : Grid} {more : Int} (s : SetUp c g more) : remN paidH c g (bedG c g c.over more) = mostT c g := by
  have hov := s.hc.ov
  have hm := s.more
  refine s.rem (by omega) hm (fun k hk hB hx => ?_) fun k hk hq => if_neg hq
  unfold mostC paidH
  rw [if_pos ⟨hB, hx⟩]
  congr 1
  split <;> omega
theorem SetUp.lvl3 {c : Chan} {g : Grid} {more : Int} (s : SetUp c g more) {k : Nat} (hk : k < g.levels.length) (hB : gB c g k = true) (hx : lv g.levels k ≠ 30000) : lv (bedL c g c.over more) k = if gV c g k - c.over - more < lv g.levels k then gV c g k - c.over - more else lv g.levels k := by
  have hov := s.hc.ov
  rw [s.lvl hk (by omega)]
  by_cases h1 : gV c g k - c.over - more < lv g.levels k
  · rw [if_pos ⟨hB, hx, h1⟩, if_pos h1]
  · rw [if_neg (fun h => h1 h.2.2), if_neg h1]
theorem SetUp.over3 {c : Chan} {g : Grid} {more : Int} (s : SetUp c g more) : remN overH c g (bedG c g c.over more) = wastT c g more := by
  have hov := s.hc.ov
  have hm := s.more
  refine s.rem (by omega) hm (fun k hk hB hx => ?_) fun k hk hq => if_neg hq
  unfold wastC overH
  rw [if_pos ⟨hB, hx⟩, s.lvl3 hk hB hx]
theorem SetUp.cut3 {c : Chan} {g : Grid} {more : Int} (s : SetUp c g more) : cutN g (bedG c g c.over more) g.levels.length = mostT c g + wastT c g more := by
  have hov := s.hc.ov
  have hm := s.more
  unfold mostT wastT
  rw [← sumN_add (f2 := fun k => mostC c g k + wastC c g more k) _ fun _ _ => rfl]
  refine s.cut (by omega) hm (fun k hk hB hx => ?_) fun k hk hq => by simp only [mostC, wastC, if_neg hq]; rfl
  simp only [mostC, wastC]
  rw [if_pos ⟨hB, hx⟩, if_pos ⟨hB, hx⟩, s.lvl3 hk hB hx, ← Int.mul_add]
  congr 1
  split <;> omega
theorem SetUp.tot {c : Chan} {g : Grid} {more : Int} (s : SetUp c g more) : (0 ≤ needT c g ∧ needT c g ≤ 5000000000000000) ∧ (0 ≤ mostT c g ∧ mostT c g ≤ 5000000000000000) ∧ 0 ≤ wastT c g more ∧ wastT c g more ≤ 5000000000000000 := by
  have hsm := (okGrid s.h0).small
  have h := okGrid s.h0
  have h2 := okGrid (s.grid (off := c.over) (m := 0) s.hc.ov (by omega))
  have h3 := okGrid (s.grid (off := c.over) (m := more) s.hc.ov s.more)
  have b1 : 0 ≤ needN c g ∧ needN c g ≤ 4000000000000 * ((g.levels.length : Nat) : Int) := dsum_bd _ (Nat.le_refl _) (needW_bd s.hc h)
  have b2 : 0 ≤ remN paidH c g (bedG c g c.over 0) ∧ remN paidH c g (bedG c g c.over 0) ≤ 4000000000000 * ((g.levels.length : Nat) : Int) := dsum_bd _ (Nat.le_refl _) (remW_bd paidH_ok s.hc h h2 (bedL_len ..))
  have b3 : 0 ≤ remN overH c g (bedG c g c.over more) ∧ remN overH c g (bedG c g c.over more) ≤ 4000000000000 * ((g.levels.length : Nat) : Int) := dsum_bd _ (Nat.le_refl _) (remW_bd overH_ok s.hc h h3 (bedL_len ..))
  rw [need_eq] at b1
  rw [s.paid2] at b2
  rw [s.over3] at b3
  omega
end Go.Pv.Soil

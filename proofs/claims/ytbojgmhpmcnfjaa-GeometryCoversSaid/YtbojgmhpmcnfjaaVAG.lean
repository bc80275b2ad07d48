import Derived.Test.YtbojgmhpmcnfjaaProg
import Derived.Test.YtbojgmhpmcnfjaaVAF
import Derived.KernelRfl
import Derived.Test.YtbojgmhpmcnfjaaVAE
import Derived.Test.YtbojgmhpmcnfjaaVAC
/- Part of the proofs over Ytbojgmhpmcnfjaa: JU, JV, MJ, MK, JR, JW, JX, JY, MV, H8, H9, JM, H17, JN, MW, HR, HR4. -/
set_option linter.unusedVariables false
set_option linter.unusedSimpArgs false
set_option linter.unnecessarySimpa false
open Go Go.Proofs Go.Pv
set_option maxHeartbeats 8000000
set_option maxRecDepth 100000
set_option linter.unusedSimpArgs false
set_option linter.unusedVariables false
namespace Go.Pv.Geo
theorem scalB : ScalF encB 3 := fun _ => ⟨rfl, rfl⟩
theorem mkB_eq {a b c : Nat} (h : a < 100 ∧ b < 100 ∧ c < 100) : mkB a b c = ⟨⟨a, b, c⟩, by simp only; omega⟩ := by rw [mkB, dif_pos h]
theorem progB_step (l : List Pt) (a b q : Nat) (X : List BT) : X ++ progB l a b (q + 1) = (X ++ progB l a b q) ++ T3 l a b (b + 1 + q) := by rw [List.append_assoc]; rfl
theorem progA_step (l : List Pt) (a m : Nat) (X : List BT) : X ++ progA l a (m + 1) = (X ++ progA l a m) ++ progB l a (a + 1 + m) (l.length - (a + 1 + m + 1)) := by rw [List.append_assoc]; rfl
theorem progL_step (l : List Pt) (a : Nat) : progL l (a + 1) = progL l a ++ progA l a (l.length - (a + 1)) := rfl
theorem belT_get {l : List Pt} {a b c : Nat} (ha : a < l.length) (hb : b < l.length) (hc : c < l.length) : belT l a b c = belL l (rotT l[a] l[b] l[c] 2).1 (rotT l[a] l[b] l[c] 2).2.1 (rotT l[a] l[b] l[c] 2).2.2 := by
  unfold belT; rw [ptL_get ha, ptL_get hb, ptL_get hc]
theorem crT_get {l : List Pt} {a b c : Nat} (ha : a < l.length) (hb : b < l.length) (hc : c < l.length) : crT l a b c = crossE l[a] l[b] l[c] := by
  unfold crT; rw [ptL_get ha, ptL_get hb, ptL_get hc]
theorem c_triangulate (l : List Pt) (hl : l.length ≤ 24) (hok : ∀ p ∈ l, ptOK p = true) (hf : farL l = false) : Contract Try.prog 81 [.sl (l.map encPt)] (.ret (.fr 3 ((refL l l.length).map encB))) := by
  have hy : ContractM Try.prog 114 [.os 0 0 (progL l l.length).length, .clo (.func 115) [] []] ⟨3, true, (progL l l.length).map encB⟩ (.tup []) ⟨3, true, (refL l l.length).map encB⟩ := by
    rw [← sort_ref (by omega)]
    have hlen : (progL l l.length).length ≤ 20000 := by
      have := accF_len (f := fun a => progA l a (l.length - (a + 1))) (B := 576) (fun a => ?_) l.length
      · have h2 := Nat.mul_le_mul_right 576 hl
        unfold progL; omega
      · have := accF_len (f := fun m => progB l a (a + 1 + m) (l.length - (a + 1 + m + 1))) (B := 24) (fun m => ?_) (l.length - (a + 1))
        · show (accF _ _).length ≤ 576
          have : l.length - (a + 1) ≤ 24 := by omega
          have h2 := Nat.mul_le_mul_right 24 this
          omega
        · have := accF_len (f := fun q => T3 l a (a + 1 + m) (a + 1 + m + 1 + q)) (B := 1) (fun q => T3_len _ _ _ _) (l.length - (a + 1 + m + 1))
          show (accF _ _).length ≤ 24
          omega
    exact c_SortTri _ (by omega)
  have hRL : (refL l l.length).length = (progL l l.length).length := by
    rw [← sort_ref (by omega)]; exact List.length_mergeSort _
  refine contract_of mix Try.func81 rfl rfl (by rw [Try.ntmps81]; exact Nat.le_of_ble_eq_true rfl) ?_; rw [Try.results81, Try.ntmps81]; simp only [argsE, Nat.reduceAdd]
  repeat' first
           | (with_reducible apply go_op)
           | (with_reducible apply go_next)
           | ((with_reducible (show evOp _ _ _ _ _ _)); first
             | ((with_reducible (show evOp _ (.move _) _ _ _ _)) ; first | ((with_reducible apply go_mv_int); rfl; rfl) | ((with_reducible apply go_mv_sl); rfl; rfl) | ((with_reducible apply go_mv_nilsl); rfl; rfl))
             | ((with_reducible apply go_as))
             | (((with_reducible apply go_len); rfl; rfl)))
           | ((with_reducible (show evOps _ _ _ _ _ _)); first
             | (with_reducible apply go_nil))
           | ((with_reducible (show evG _ _ _ _ _)); first
             | (with_reducible apply go_seq)
             | (with_reducible apply go_region)
             | (with_reducible apply go_block))
           | (with_reducible apply go_kseq)
  all_goals try (exfalso; omega)
  refine go_count l.length (fun a => ⟨[(3, .os 1 0 (progL l a).length), (11, .int .i64 a), (10, .int .i64 l.length), (0, .sl (l.map encPt))], [(1, ⟨3, true, (progL l a).map encB⟩)], 32, 83⟩) (fun a => (progL l a).length ≤ a * 576)
    (entails_eq (nx := 32) (k := 3) (ns := [(3, 1)]) (ks := [11, 10, 0]) [] rfl (by intro p hp; obtain rfl : p = (3, 1) := (by simpa using hp); kernel_rfl) (by kernel_rfl)) (by simp [progL, accF]) ?_
  intro a ha hCa
  by_cases hla : a < l.length
  rotate_left
  · have e : a = l.length := by omega
    subst e
    generalize progL l l.length = L at *
    generalize refL l l.length = R at *
    repeat' first
           | ((with_reducible (show evG _ _ (.region 18 _ _) _ _)); (with_reducible apply go_regionM))
           | ((with_reducible apply (goM_call (b := 1))); rfl; rfl; (exact scalR_map scalB _); rfl; rfl; (exact hy); rfl; rfl)
           | (with_reducible apply goM_op)
           | (with_reducible apply goM_next)
           | (with_reducible apply goM_nil)
           | (with_reducible apply go_op)
           | (with_reducible apply go_next)
           | ((with_reducible (show evOp _ _ _ _ _ _)); first
             | ((with_reducible (show evOp _ (.move _) _ _ _ _)) ; first | ((with_reducible apply go_mv_int); rfl; rfl) | ((with_reducible apply go_mv_os); rfl; rfl))
             | ((with_reducible apply go_as))
             | ((with_reducible (show evOp _ (.binOp _ _ _ _ _) _ _ _ _)) ; first | ((with_reducible apply go_cmp); rfl; rfl; rfl; rfl) | ((with_reducible apply go_add); rfl; rfl; rfl; omega)))
           | ((with_reducible (show evOps _ _ _ _ _ _)); first
             | (with_reducible apply go_nil))
           | ((with_reducible (show evG _ _ _ _ _)); first
             | (with_reducible apply go_seq)
             | (with_reducible apply go_region)
             | (((with_reducible apply go_cond); rfl) <;> (intro h; simp only [h]; try simp only [decide_eq_true_eq, decide_eq_false_iff_not, Bool.not_eq_true', Bool.not_eq_false', Bool.not_true, Bool.not_false] at h; try exact absurd trivial h))
             | (with_reducible apply go_ret)
             | (with_reducible apply go_skipc)
             | (with_reducible apply go_block)
             | (with_reducible apply go_exit))
           | (with_reducible apply go_kseq)
           | (with_reducible apply go_kblock_exit)
           | (with_reducible apply go_kseq_exit)
    all_goals try (exfalso; omega)
    exact end_frn (l := R) rfl rfl hRL rfl
  have h9a : a * 576 ≤ 24 * 576 := Nat.mul_le_mul_right _ (by omega)
  rw [progL_step]
  clear hy hRL
  generalize progL l a = X at *
  repeat' first
           | (with_reducible apply go_op)
           | (with_reducible apply go_next)
           | ((with_reducible (show evOp _ _ _ _ _ _)); first
             | ((with_reducible (show evOp _ (.move _) _ _ _ _)) ; first | ((with_reducible apply go_mv_int); rfl; rfl) | ((with_reducible apply go_mv_os); rfl; rfl))
             | ((with_reducible apply go_as))
             | ((with_reducible (show evOp _ (.binOp _ _ _ _ _) _ _ _ _)) ; first | ((with_reducible apply go_cmp); rfl; rfl; rfl; rfl) | ((with_reducible apply go_add); rfl; rfl; rfl; omega)))
           | ((with_reducible (show evOps _ _ _ _ _ _)); first
             | (with_reducible apply go_nil))
           | ((with_reducible (show evG _ _ _ _ _)); first
             | (with_reducible apply go_seq)
             | (with_reducible apply go_region)
             | (((with_reducible apply go_cond); rfl) <;> (intro h; simp only [h]; try simp only [decide_eq_true_eq, decide_eq_false_iff_not, Bool.not_eq_true', Bool.not_eq_false', Bool.not_true, Bool.not_false] at h; try exact absurd trivial h))
             | (with_reducible apply go_skipc)
             | (with_reducible apply go_block)
             | (with_reducible apply go_exit))
           | (with_reducible apply go_kseq)
           | (with_reducible apply go_kblock_exit)
           | (with_reducible apply go_kseq_exit)
  all_goals try (exfalso; omega)
  refine go_count (l.length - (a + 1)) (fun m => ⟨[(3, .os 1 0 (X ++ progA l a m).length), (5, .int .i64 ((a + 1 + m : Nat) : Int)), (4, .int .i64 a), (11, .int .i64 a), (10, .int .i64 l.length), (0, .sl (l.map encPt))], [(1, ⟨3, true, (X ++ progA l a m).map encB⟩)], 32, 83⟩) (fun m => (X ++ progA l a m).length ≤ a * 576 + m * 24)
    (entails_eq (nx := 32) (k := 0) (ns := []) (ks := [3, 5, 4, 11, 10, 0]) [(1, 1)] rfl (by simp) (by rw [show X ++ progA l a 0 = X from List.append_nil _]; kernel_rfl)) (by rw [show X ++ progA l a 0 = X from List.append_nil _]; omega) ?_
  intro m hm hCm
  by_cases hlm : m < l.length - (a + 1)
  rotate_left
  · have e : m = l.length - (a + 1) := by omega
    rw [← e]
    generalize X ++ progA l a m = Y at *
    repeat' first
           | (with_reducible apply go_op)
           | (with_reducible apply go_next)
           | ((with_reducible (show evOp _ _ _ _ _ _)); first
             | ((with_reducible (show evOp _ (.move _) _ _ _ _)) ; first | ((with_reducible apply go_mv_int); rfl; rfl) | ((with_reducible apply go_mv_sl); rfl; rfl))
             | ((with_reducible apply go_as))
             | ((with_reducible (show evOp _ (.binOp _ _ _ _ _) _ _ _ _)) ; first | ((with_reducible apply go_cmp); rfl; rfl; rfl; rfl) | ((with_reducible apply go_add); rfl; rfl; rfl; omega))
             | (((with_reducible apply go_len); rfl; rfl)))
           | ((with_reducible (show evOps _ _ _ _ _ _)); first
             | (with_reducible apply go_nil))
           | ((with_reducible (show evG _ _ _ _ _)); first
             | (with_reducible apply go_seq)
             | (with_reducible apply go_region)
             | (((with_reducible apply go_cond); rfl) <;> (intro h; simp only [h]; try simp only [decide_eq_true_eq, decide_eq_false_iff_not, Bool.not_eq_true', Bool.not_eq_false', Bool.not_true, Bool.not_false] at h; try exact absurd trivial h))
             | (with_reducible apply go_skipc)
             | (with_reducible apply go_block)
             | (with_reducible apply go_exit))
           | (with_reducible apply go_kseq)
           | (with_reducible apply go_kblock)
           | (with_reducible apply go_kblock_exit)
           | (with_reducible apply go_kseq_exit)
    all_goals try (exfalso; omega)
    exact ⟨by omega, by omega, entails_eq (nx := 32) (k := 0) (ns := []) (ks := [3, 11, 10, 0]) [(1, 1)] rfl (by simp) (by kernel_rfl)⟩
  rw [progA_step]
  generalize X ++ progA l a m = Y at *
  clear hCa
  obtain ⟨b, hb⟩ : ∃ b, b = a + 1 + m := ⟨_, rfl⟩
  rw [← hb]
  have hbl : b < l.length := by omega
  repeat' first
           | (with_reducible apply go_op)
           | (with_reducible apply go_next)
           | ((with_reducible (show evOp _ _ _ _ _ _)); first
             | ((with_reducible (show evOp _ (.move _) _ _ _ _)) ; first | ((with_reducible apply go_mv_int); rfl; rfl) | ((with_reducible apply go_mv_sl); rfl; rfl))
             | ((with_reducible apply go_as))
             | ((with_reducible (show evOp _ (.binOp _ _ _ _ _) _ _ _ _)) ; first | ((with_reducible apply go_cmp); rfl; rfl; rfl; rfl) | ((with_reducible apply go_add); rfl; rfl; rfl; omega))
             | (((with_reducible apply go_len); rfl; rfl)))
           | ((with_reducible (show evOps _ _ _ _ _ _)); first
             | (with_reducible apply go_nil))
           | ((with_reducible (show evG _ _ _ _ _)); first
             | (with_reducible apply go_seq)
             | (with_reducible apply go_region)
             | (((with_reducible apply go_cond); rfl) <;> (intro h; simp only [h]; try simp only [decide_eq_true_eq, decide_eq_false_iff_not, Bool.not_eq_true', Bool.not_eq_false', Bool.not_true, Bool.not_false] at h; try exact absurd trivial h))
             | (with_reducible apply go_skipc)
             | (with_reducible apply go_block)
             | (with_reducible apply go_exit))
           | (with_reducible apply go_kseq)
           | (with_reducible apply go_kblock)
           | (with_reducible apply go_kblock_exit)
           | (with_reducible apply go_kseq_exit)
  all_goals try (exfalso; omega)
  refine go_count (l.length - (b + 1)) (fun q => ⟨[(3, .os 1 0 (Y ++ progB l a b q).length), (6, .int .i64 ((b + 1 + q : Nat) : Int)), (5, .int .i64 b), (4, .int .i64 a), (11, .int .i64 a), (10, .int .i64 l.length), (0, .sl (l.map encPt))], [(1, ⟨3, true, (Y ++ progB l a b q).map encB⟩)], 32, 83⟩) (fun q => (Y ++ progB l a b q).length ≤ a * 576 + m * 24 + q)
    (entails_eq (nx := 32) (k := 0) (ns := []) (ks := [3, 6, 5, 4, 11, 10, 0]) [(1, 1)] rfl (by simp) (by rw [show Y ++ progB l a b 0 = Y from List.append_nil _]; kernel_rfl)) (by rw [show Y ++ progB l a b 0 = Y from List.append_nil _]; omega) ?_
  intro q hq hCq
  by_cases hlq : q < l.length - (b + 1)
  rotate_left
  · have e : q = l.length - (b + 1) := by omega
    rw [← e]
    generalize Y ++ progB l a b q = Z at *
    repeat' first
           | (with_reducible apply go_op)
           | (with_reducible apply go_next)
           | ((with_reducible (show evOp _ _ _ _ _ _)); first
             | ((with_reducible (show evOp _ (.move _) _ _ _ _)) ; first | ((with_reducible apply go_mv_int); rfl; rfl) | ((with_reducible apply go_mv_sl); rfl; rfl))
             | ((with_reducible apply go_as))
             | (((with_reducible apply go_ld_ptr); rfl; rfl; rfl))
             | (((with_reducible apply go_index_nat); rfl; rfl; (with_reducible rfl); (intro; rfl); rfl; omega; (intro hlt)))
             | ((with_reducible (show evOp _ (.binOp _ _ _ _ _) _ _ _ _)) ; first | ((with_reducible apply go_cmp); rfl; rfl; rfl; rfl) | ((with_reducible apply go_add); rfl; rfl; rfl; omega))
             | (((with_reducible apply go_len); rfl; rfl))
             | (((with_reducible apply go_st_agg); rfl; rfl; rfl; rfl; rfl; rfl; rfl))
             | (((with_reducible apply go_bd3_iii); rfl; rfl; rfl; rfl; rfl))
             | (((with_reducible apply go_alloc); rfl; rfl; rfl)))
           | ((with_reducible (show evOps _ _ _ _ _ _)); first
             | (with_reducible apply go_nil)
             | ((with_reducible apply go_pre); rfl))
           | ((with_reducible (show evG _ _ _ _ _)); first
             | (with_reducible apply go_seq)
             | (with_reducible apply go_region)
             | (((with_reducible apply go_cond); rfl) <;> (intro h; simp only [h]; try simp only [decide_eq_true_eq, decide_eq_false_iff_not, Bool.not_eq_true', Bool.not_eq_false', Bool.not_true, Bool.not_false] at h; try exact absurd trivial h))
             | ((with_reducible apply go_order); kernel_rfl; rfl)
             | (with_reducible apply go_skipc)
             | (with_reducible apply go_block)
             | (with_reducible apply go_exit))
           | (with_reducible apply go_kseq)
           | (with_reducible apply go_kblock)
           | (with_reducible apply go_kblock_exit)
           | (with_reducible apply go_kseq_exit)
    all_goals try (exfalso; omega)
    exact ⟨by omega, by omega, entails_eq (nx := 32) (k := 0) (ns := []) (ks := [3, 5, 4, 11, 10, 0]) [(1, 1)] rfl (by simp) (by rw [hb]; kernel_rfl)⟩
  rw [progB_step]
  generalize Y ++ progB l a b q = Z at *
  obtain ⟨c, hc⟩ : ∃ c, c = b + 1 + q := ⟨_, rfl⟩
  rw [← hc]
  have hcl : c < l.length := by omega
  have ma : l[a] ∈ l := List.getElem_mem hla
  have mb : l[b] ∈ l := List.getElem_mem hbl
  have mc : l[c] ∈ l := List.getElem_mem hcl
  have x1 := c_cross l[a] l[b] l[c] (hok _ ma) (hok _ mb) (hok _ mc)
  have x2 := c_belongs l (by omega) hok hf l[a] l[b] l[c] ma mb mc
  have x3 := c_belongs l (by omega) hok hf l[a] l[c] l[b] ma mc mb
  rw [← belT_get hla hbl hcl] at x2
  rw [← belT_get hla hcl hbl] at x3
  rw [← crT_get hla hbl hcl] at x1
  have hlen := T3_len l a b c
  have hno : crT l a b c = 0 → Z ++ T3 l a b c = Z := fun h => by rw [T3, if_neg (by omega), if_neg (by omega)]; exact List.append_nil _
  have hp1 : 0 < crT l a b c → belT l a b c = true → Z ++ T3 l a b c = Z ++ [⟨⟨a, b, c⟩, by simp only; omega⟩] := fun h h' => by rw [T3, if_pos h, if_pos h', mkB_eq ⟨by omega, by omega, by omega⟩]
  have hp2 : 0 < crT l a b c → belT l a b c = false → Z ++ T3 l a b c = Z := fun h h' => by rw [T3, if_pos h, if_neg (by rw [h']; simp)]; exact List.append_nil _
  have hn1 : crT l a b c < 0 → belT l a c b = true → Z ++ T3 l a b c = Z ++ [⟨⟨a, c, b⟩, by simp only; omega⟩] := fun h h' => by rw [T3, if_neg (by omega), if_pos h, if_pos h', mkB_eq ⟨by omega, by omega, by omega⟩]
  have hn2 : crT l a b c < 0 → belT l a c b = false → Z ++ T3 l a b c = Z := fun h h' => by rw [T3, if_neg (by omega), if_pos h, if_neg (by rw [h']; simp)]; exact List.append_nil _
  generalize crT l a b c = cr at *
  generalize belT l a b c = v1 at *
  generalize belT l a c b = v2 at *
  repeat' first
           | (with_reducible apply go_op)
           | (with_reducible apply go_next)
           | ((with_reducible (show evOp _ _ _ _ _ _)); first
             | ((with_reducible (show evOp _ (.move _) _ _ _ _)) ; first | ((with_reducible apply go_mv_int); rfl; rfl) | ((with_reducible apply go_mv_bool); rfl; rfl) | ((with_reducible apply go_mv_sl); rfl; rfl) | ((with_reducible apply go_mv_os); rfl; rfl))
             | ((with_reducible apply go_as))
             | ((with_reducible (show evOp _ (.load _ _) _ _ _ _)) ; first | ((with_reducible apply go_ld_ptr); rfl; rfl; rfl) | ((with_reducible apply go_ld_agg); rfl; rfl; rfl; rfl) | ((with_reducible apply go_load_own); rfl; rfl; rfl; rfl))
             | (((with_reducible apply go_fieldAddr_own); rfl; rfl; rfl))
             | (((with_reducible apply go_index_nat); rfl; rfl; (with_reducible rfl); (intro; rfl); rfl; omega; (intro hlt)))
             | ((with_reducible (show evOp _ (.binOp _ _ _ _ _) _ _ _ _)) ; first | ((with_reducible apply go_cmp); rfl; rfl; rfl; rfl) | ((with_reducible apply go_add); rfl; rfl; rfl; omega))
             | ((with_reducible (show evOp _ (.call _) _ _ _ _)) ; first | ((with_reducible apply go_len); rfl; rfl) | ((with_reducible apply go_fn_int); rfl; (exact x1); rfl) | ((with_reducible apply go_fn_bool); rfl; (exact x2); rfl) | ((with_reducible apply go_fn_bool); rfl; (exact x3); rfl))
             | ((with_reducible (show evOp _ (.store _ _ _) _ _ _ _)) ; first | ((with_reducible apply go_st_agg); rfl; rfl; rfl; rfl; rfl; rfl; rfl) | ((with_reducible apply go_store); rfl; rfl; rfl; rfl; rfl; rfl; (exact Nat.le_of_ble_eq_true rfl); (first | exact Nat.le_of_ble_eq_true rfl | omega); rfl; rfl))
             | (((with_reducible apply go_pick); rfl; rfl; rfl))
             | ((with_reducible (show evOp _ (.build _ _) _ _ _ _)) ; first | ((with_reducible apply go_bd3_iii); rfl; rfl; rfl; rfl; rfl) | ((with_reducible apply go_build); rfl; rfl))
             | (((with_reducible apply go_alloc); rfl; rfl; rfl))
             | (((with_reducible apply go_bs1_agg); rfl; rfl; rfl; rfl; rfl; rfl)))
           | ((with_reducible (show evOps _ _ _ _ _ _)); first
             | (with_reducible apply go_nil)
             | ((with_reducible apply go_run); rfl; rfl)
             | ((with_reducible apply go_pass); rfl; rfl; rfl)
             | (((with_reducible apply go_guard); rfl) <;> (intro h; simp only [h, Bool.not_true, Bool.not_false]; (try with_reducible (refine ⟨rfl, ?_⟩)); try simp only [decide_eq_true_eq, decide_eq_false_iff_not, Bool.not_eq_true', Bool.not_eq_false', Bool.not_true, Bool.not_false] at h; try exact absurd trivial h))
             | ((with_reducible apply go_pre); rfl)
             | (with_reducible apply go_pre_nil)
             | ((with_reducible apply go_suf); rfl)
             | (with_reducible apply go_suf_nil))
           | ((with_reducible (show evG _ _ _ _ _)); first
             | (with_reducible apply go_seq)
             | (with_reducible apply go_region)
             | ((with_reducible apply go_cond_f); rfl; rfl)
             | (((with_reducible apply go_cond); rfl) <;> (intro h; simp only [h]; try simp only [decide_eq_true_eq, decide_eq_false_iff_not, Bool.not_eq_true', Bool.not_eq_false', Bool.not_true, Bool.not_false] at h; try exact absurd trivial h))
             | ((with_reducible apply go_order); kernel_rfl; rfl)
             | (with_reducible apply go_skipc)
             | (with_reducible apply go_block)
             | (with_reducible apply go_exit))
           | (with_reducible apply go_kseq)
           | (with_reducible apply go_ksuf)
           | (with_reducible apply go_kblock)
           | (with_reducible apply go_kblock_exit)
           | (with_reducible apply go_kseq_exit)
  all_goals try (exfalso; omega)
  · have e := hn1 (by omega) (by assumption)
    refine go_app_map (f := encB) (a := ⟨⟨a, c, b⟩, by simp only; omega⟩) (l := Z) scalB rfl rfl rfl rfl rfl (by kernel_rfl) (by kernel_rfl) (by kernel_rfl) (by omega) rfl ?_
    repeat' first
           | (with_reducible apply go_op)
           | (with_reducible apply go_next)
           | ((with_reducible (show evOp _ _ _ _ _ _)); first
             | ((with_reducible (show evOp _ (.move _) _ _ _ _)) ; first | ((with_reducible apply go_mv_int); rfl; rfl) | ((with_reducible apply go_mv_os); rfl; rfl))
             | ((with_reducible apply go_as))
             | (((with_reducible apply go_add); rfl; rfl; rfl; omega)))
           | ((with_reducible (show evOps _ _ _ _ _ _)); first
             | (with_reducible apply go_nil))
           | ((with_reducible (show evG _ _ _ _ _)); first
             | (with_reducible apply go_region))
           | (with_reducible apply go_kseq)
           | (with_reducible apply go_kblock)
    all_goals try (exfalso; omega)
    exact ⟨by omega, by rw [List.length_append]; omega, by rw [e, show b + 1 + (q + 1) = c + 1 by omega]; exact entails_eq (nx := 32) (k := 0) (ns := []) (ks := [3, 6, 5, 4, 11, 10, 0]) [(1, 1)] rfl (by simp) (by rw [List.length_append]; kernel_rfl)⟩
  · have e := hn2 (by omega) (by assumption)
    exact ⟨by omega, by rw [List.length_append]; omega, by rw [e, show b + 1 + (q + 1) = c + 1 by omega]; exact entails_eq (nx := 32) (k := 0) (ns := []) (ks := [3, 6, 5, 4, 11, 10, 0]) [(1, 1)] rfl (by simp) (by kernel_rfl)⟩
  · have e := hp1 (by omega) (by assumption)
    refine go_app_map (f := encB) (a := ⟨⟨a, b, c⟩, by simp only; omega⟩) (l := Z) scalB rfl rfl rfl rfl rfl (by kernel_rfl) (by kernel_rfl) (by kernel_rfl) (by omega) rfl ?_
    repeat' first
           | (with_reducible apply go_op)
           | (with_reducible apply go_next)
           | ((with_reducible (show evOp _ _ _ _ _ _)); first
             | ((with_reducible (show evOp _ (.move _) _ _ _ _)) ; first | ((with_reducible apply go_mv_int); rfl; rfl) | ((with_reducible apply go_mv_os); rfl; rfl))
             | ((with_reducible apply go_as))
             | (((with_reducible apply go_add); rfl; rfl; rfl; omega)))
           | ((with_reducible (show evOps _ _ _ _ _ _)); first
             | (with_reducible apply go_nil))
           | ((with_reducible (show evG _ _ _ _ _)); first
             | (with_reducible apply go_region))
           | (with_reducible apply go_kseq)
           | (with_reducible apply go_kblock)
    all_goals try (exfalso; omega)
    exact ⟨by omega, by rw [List.length_append]; omega, by rw [e, show b + 1 + (q + 1) = c + 1 by omega]; exact entails_eq (nx := 32) (k := 0) (ns := []) (ks := [3, 6, 5, 4, 11, 10, 0]) [(1, 1)] rfl (by simp) (by rw [List.length_append]; kernel_rfl)⟩
  · have e := hp2 (by omega) (by assumption)
    exact ⟨by omega, by rw [List.length_append]; omega, by rw [e, show b + 1 + (q + 1) = c + 1 by omega]; exact entails_eq (nx := 32) (k := 0) (ns := []) (ks := [3, 6, 5, 4, 11, 10, 0]) [(1, 1)] rfl (by simp) (by kernel_rfl)⟩
  · have e := hno (by omega)
    exact ⟨by omega, by rw [List.length_append]; omega, by rw [e, show b + 1 + (q + 1) = c + 1 by omega]; exact entails_eq (nx := 32) (k := 0) (ns := []) (ks := [3, 6, 5, 4, 11, 10, 0]) [(1, 1)] rfl (by simp) (by kernel_rfl)⟩
end Go.Pv.Geo

open Go Go.Proofs Go.Pv
set_option maxHeartbeats 8000000
set_option maxRecDepth 100000
set_option linter.unusedSimpArgs false
set_option linter.unusedVariables false
namespace Go.Pv.Geo
/-- The first place of a point, or -1. -/
theorem c_IndexPt (l : List Pt) (hl : l.length < 1000000000000) (p : Pt) : Contract Try.prog 127 [.sl (l.map encPt), .agg (encPt p)] (.ret (.int .i64 (idxOf (ptEq p) l))) := by
  refine contract_of mix Try.func127 rfl rfl (by rw [Try.ntmps127]; exact Nat.le_of_ble_eq_true rfl) ?_; rw [Try.results127, Try.ntmps127]; simp only [argsE, Nat.reduceAdd]
  repeat' first
           | (with_reducible apply go_op)
           | (with_reducible apply go_next)
           | ((with_reducible (show evOp _ _ _ _ _ _)); first
             | ((with_reducible (show evOp _ (.move _) _ _ _ _)) ; first | ((with_reducible apply go_mv_int); rfl; rfl) | ((with_reducible apply go_mv_sl); rfl; rfl))
             | ((with_reducible apply go_as))
             | (((with_reducible apply go_len); rfl; rfl))
             | (((with_reducible apply go_bx_agg); rfl; rfl; (exact Nat.le_of_ble_eq_true rfl); rfl; rfl)))
           | ((with_reducible (show evOps _ _ _ _ _ _)); first
             | (with_reducible apply go_nil))
           | ((with_reducible (show evG _ _ _ _ _)); first
             | (with_reducible apply go_seq)
             | (with_reducible apply go_region)
             | (with_reducible apply go_block))
           | (with_reducible apply go_kseq)
  all_goals try (exfalso; omega)
  refine go_count l.length (fun i => ⟨[(8, .int .i64 i), (7, .int .i64 l.length), (3, .op 0 0 0), (0, .sl (l.map encPt))], [(0, ⟨2, true, [encPt p]⟩)], 32, 19⟩) (fun i => ∀ j (hj : j < i) (hj' : j < l.length), ptEq p l[j] = false)
    (entails_eq (nx := 32) (k := 0) (ns := []) (ks := [8, 7, 3, 0]) [(0, 0)] rfl (by simp) (by kernel_rfl)) (fun j hj _ => absurd hj (Nat.not_lt_zero _)) ?_
  intro i hi hC
  by_cases h2 : i < l.length
  · have he : ptEq p l[i] = (decide (p.x = l[i].x) && (decide (p.y = l[i].y) && true)) := rfl
    repeat' first
           | (with_reducible apply go_op)
           | (with_reducible apply go_next)
           | ((with_reducible (show evOp _ _ _ _ _ _)); first
             | ((with_reducible (show evOp _ (.move _) _ _ _ _)) ; first | ((with_reducible apply go_mv_int); rfl; rfl) | ((with_reducible apply go_mv_sl); rfl; rfl))
             | ((with_reducible apply go_as))
             | ((with_reducible (show evOp _ (.load _ _) _ _ _ _)) ; first | ((with_reducible apply go_ld_ptr); rfl; rfl; rfl) | ((with_reducible apply go_ld_agg); rfl; rfl; rfl; rfl))
             | (((with_reducible apply go_index_nat); rfl; rfl; (with_reducible rfl); (intro; rfl); rfl; omega; (intro hlt)))
             | ((with_reducible (show evOp _ (.binOp _ _ _ _ _) _ _ _ _)) ; first | ((with_reducible apply go_cmp); rfl; rfl; rfl; rfl) | ((with_reducible apply go_add); rfl; rfl; rfl; omega) | ((with_reducible apply go_eql_agg); rfl; rfl; rfl; rfl)))
           | ((with_reducible (show evOps _ _ _ _ _ _)); first
             | (with_reducible apply go_nil)
             | ((with_reducible apply go_pre); rfl)
             | (with_reducible apply go_pre_nil)
             | ((with_reducible apply go_suf); rfl)
             | (with_reducible apply go_suf_nil))
           | ((with_reducible (show evG _ _ _ _ _)); first
             | (with_reducible apply go_seq)
             | (with_reducible apply go_region)
             | (((with_reducible apply go_cond); rfl) <;> (intro h; simp only [h]; try simp only [decide_eq_true_eq, decide_eq_false_iff_not, Bool.not_eq_true', Bool.not_eq_false', Bool.not_true, Bool.not_false] at h; try exact absurd trivial h))
             | ((with_reducible apply go_order); kernel_rfl; rfl)
             | (with_reducible apply go_ret)
             | (with_reducible apply go_skipc)
             | (with_reducible apply go_block)
             | (with_reducible apply go_exit))
           | (with_reducible apply go_kseq)
           | (with_reducible apply go_ksuf)
           | (with_reducible apply go_kseq_ret)
           | (with_reducible apply go_kblock)
           | (with_reducible apply go_kblock_ret)
           | (with_reducible apply go_kblock_exit)
           | (with_reducible apply go_kseq_exit)
           | ((with_reducible apply end_int); rfl)
    all_goals first
      | (exfalso; omega)
      | (refine (idxOf_some h2 (he.trans (by assumption)) fun j hj => hC j hj (by omega)).symm)
      | (refine ⟨h2, fun j hj hj' => ?_, entails_eq (nx := 32) (k := 0) (ns := []) (ks := [8, 7, 3, 0]) [(0, 0)] rfl (by simp) (by kernel_rfl)⟩
         rcases Nat.lt_succ_iff_lt_or_eq.1 hj with h' | rfl
         · exact hC j h' hj'
         · exact he.trans (by assumption))
      | trace_state
  · repeat' first
           | (with_reducible apply go_op)
           | (with_reducible apply go_next)
           | ((with_reducible (show evOp _ _ _ _ _ _)); first
             | ((with_reducible (show evOp _ (.move _) _ _ _ _)) ; first | ((with_reducible apply go_mv_int); rfl; rfl) | ((with_reducible apply go_mv_sl); rfl; rfl))
             | ((with_reducible apply go_as))
             | ((with_reducible (show evOp _ (.load _ _) _ _ _ _)) ; first | ((with_reducible apply go_ld_ptr); rfl; rfl; rfl) | ((with_reducible apply go_ld_agg); rfl; rfl; rfl; rfl))
             | (((with_reducible apply go_index_nat); rfl; rfl; (with_reducible rfl); (intro; rfl); rfl; omega; (intro hlt)))
             | ((with_reducible (show evOp _ (.binOp _ _ _ _ _) _ _ _ _)) ; first | ((with_reducible apply go_cmp); rfl; rfl; rfl; rfl) | ((with_reducible apply go_add); rfl; rfl; rfl; omega) | ((with_reducible apply go_eql_agg); rfl; rfl; rfl; rfl)))
           | ((with_reducible (show evOps _ _ _ _ _ _)); first
             | (with_reducible apply go_nil)
             | ((with_reducible apply go_pre); rfl)
             | (with_reducible apply go_pre_nil)
             | ((with_reducible apply go_suf); rfl)
             | (with_reducible apply go_suf_nil))
           | ((with_reducible (show evG _ _ _ _ _)); first
             | (with_reducible apply go_seq)
             | (with_reducible apply go_region)
             | (((with_reducible apply go_cond); rfl) <;> (intro h; simp only [h]; try simp only [decide_eq_true_eq, decide_eq_false_iff_not, Bool.not_eq_true', Bool.not_eq_false', Bool.not_true, Bool.not_false] at h; try exact absurd trivial h))
             | ((with_reducible apply go_order); kernel_rfl; rfl)
             | (with_reducible apply go_ret)
             | (with_reducible apply go_skipc)
             | (with_reducible apply go_block)
             | (with_reducible apply go_exit))
           | (with_reducible apply go_kseq)
           | (with_reducible apply go_ksuf)
           | (with_reducible apply go_kseq_ret)
           | (with_reducible apply go_kblock)
           | (with_reducible apply go_kblock_ret)
           | (with_reducible apply go_kblock_exit)
           | (with_reducible apply go_kseq_exit)
           | ((with_reducible apply end_int); rfl)
    all_goals first
      | (exfalso; omega)
      | (refine (idxOf_none fun x hx => ?_).symm
         obtain ⟨j, hj, rfl⟩ := List.mem_iff_getElem.1 hx
         exact hC j (by omega) hj)
      | trace_state
theorem c_ContainsPt (l : List Pt) (hl : l.length < 1000000000000) (p : Pt) : Contract Try.prog 112 [.sl (l.map encPt), .agg (encPt p)] (.ret (.bool (l.any (ptEq p)))) := by
  have k := c_IndexPt l hl p
  rw [← idxOf_ge]
  refine contract_of mix Try.func112 rfl rfl (by rw [Try.ntmps112]; exact Nat.le_of_ble_eq_true rfl) ?_; rw [Try.results112, Try.ntmps112]; simp only [argsE, Nat.reduceAdd]
  repeat' first
           | (with_reducible apply go_op)
           | (with_reducible apply go_next)
           | ((with_reducible (show evOp _ _ _ _ _ _)); first
             | ((with_reducible (show evOp _ (.move _) _ _ _ _)) ; first | ((with_reducible apply go_mv_bool); rfl; rfl) | ((with_reducible apply go_mv_sl); rfl; rfl))
             | ((with_reducible apply go_as))
             | (((with_reducible apply go_ld_agg); rfl; rfl; rfl; rfl))
             | (((with_reducible apply go_cmp); rfl; rfl; rfl; rfl))
             | (((with_reducible apply go_fn_int); rfl; (exact k); rfl))
             | (((with_reducible apply go_bx_agg); rfl; rfl; (exact Nat.le_of_ble_eq_true rfl); rfl; rfl)))
           | ((with_reducible (show evOps _ _ _ _ _ _)); first
             | (with_reducible apply go_nil))
           | ((with_reducible (show evG _ _ _ _ _)); first
             | (with_reducible apply go_seq)
             | (with_reducible apply go_region)
             | (with_reducible apply go_ret))
           | (with_reducible apply go_kseq)
           | ((with_reducible apply end_bool); rfl)
           | (with_reducible rfl)
  all_goals first
    | rfl
    | trace_state
/-- The error of a patch. -/
def dupB (l : List Pt) : Bool := (List.range l.length).any fun i => (l.take i).any (ptEq (ptL l i))
def patchE (l : List Pt) : Int := if chkE l ≠ 0 then chkE l else if dupB l = true then 5 else if farL l = true then 8 else if (hullR l).length < 3 then 10 else 0
theorem dup_nodup {l : List Pt} (h : dupB l = false) : l.Nodup := by
  unfold dupB at h
  rw [List.any_eq_false] at h
  refine List.pairwise_iff_getElem.2 fun i j hi hj hij e => ?_
  have := h j (List.mem_range.2 hj)
  apply this
  rw [List.any_eq_true]
  refine ⟨l[i], ?_, ?_⟩
  · rw [List.mem_take_iff_getElem]; exact ⟨i, by omega, rfl⟩
  · rw [ptL_get hj, ptEq_iff]; exact e.symm
theorem dup_yes {l : List Pt} {i : Nat} (hi : i < l.length) (h : (l.take i).any (ptEq l[i]) = true) : dupB l = true := by
  unfold dupB
  rw [List.any_eq_true]
  exact ⟨i, List.mem_range.2 hi, by rw [ptL_get hi]; exact h⟩
theorem dup_no {l : List Pt} (h : ∀ i (hi : i < l.length), (l.take i).any (ptEq l[i]) = false) : dupB l = false := by
  unfold dupB
  rw [List.any_eq_false]
  intro i hi
  rw [ptL_get (List.mem_range.1 hi), h i (List.mem_range.1 hi)]; simp
theorem patch_ok {l : List Pt} (h : patchE l = 0) : chkE l = 0 ∧ l.Nodup ∧ farL l = false := by
  unfold patchE at h
  by_cases h1 : chkE l = 0
  · rw [if_neg (by omega)] at h
    cases h2 : dupB l
    · rw [h2] at h
      cases h3 : farL l
      · exact ⟨h1, dup_nodup h2, rfl⟩
      · rw [h3] at h; simp at h
    · rw [h2] at h; simp at h
  · rw [if_pos h1] at h; exact absurd h h1
theorem c_patchErr (l : List Pt) (hl : l.length < 1000000000000) : Contract Try.prog 80 [.sl (l.map encPt)] (.ret (.int .i64 (patchE l))) := by
  have h1 := c_Check l hl
  by_cases hz : chkE l = 0
  rotate_left
  · rw [show patchE l = chkE l from if_pos hz]
    generalize chkE l = e at *
    refine contract_of mix Try.func80 rfl rfl (by rw [Try.ntmps80]; exact Nat.le_of_ble_eq_true rfl) ?_; rw [Try.results80, Try.ntmps80]; simp only [argsE, Nat.reduceAdd]
    repeat' first
           | (with_reducible apply go_op)
           | (with_reducible apply go_next)
           | ((with_reducible (show evOp _ _ _ _ _ _)); first
             | ((with_reducible (show evOp _ (.move _) _ _ _ _)) ; first | ((with_reducible apply go_mv_int); rfl; rfl) | ((with_reducible apply go_mv_sl); rfl; rfl))
             | ((with_reducible apply go_as))
             | (((with_reducible apply go_cmp); rfl; rfl; rfl; rfl))
             | ((with_reducible (show evOp _ (.call _) _ _ _ _)) ; first | ((with_reducible apply go_len); rfl; rfl) | ((with_reducible apply go_fn_int); rfl; (exact h1); rfl)))
           | ((with_reducible (show evOps _ _ _ _ _ _)); first
             | (with_reducible apply go_nil))
           | ((with_reducible (show evG _ _ _ _ _)); first
             | (with_reducible apply go_seq)
             | (with_reducible apply go_region)
             | (((with_reducible apply go_cond); rfl) <;> (intro h; simp only [h]; try simp only [decide_eq_true_eq, decide_eq_false_iff_not, Bool.not_eq_true', Bool.not_eq_false', Bool.not_true, Bool.not_false] at h; try exact absurd trivial h))
             | (with_reducible apply go_ret)
             | (with_reducible apply go_skipc)
             | (with_reducible apply go_block))
           | (with_reducible apply go_kseq)
           | (with_reducible apply go_kseq_ret)
           | ((with_reducible apply end_int); rfl)
           | (with_reducible rfl)
    all_goals first
      | (exfalso; omega)
      | rfl
      | trace_state
  obtain ⟨h64, hok⟩ := chk_ok hz
  rw [hz] at h1
  have ep : patchE l = if dupB l = true then 5 else if farL l = true then 8 else if (hullR l).length < 3 then 10 else 0 := if_neg (by omega)
  have h2 := c_apart l hl hok
  have h3 := c_hull l (by omega) hok
  refine contract_of mix Try.func80 rfl rfl (by rw [Try.ntmps80]; exact Nat.le_of_ble_eq_true rfl) ?_; rw [Try.results80, Try.ntmps80]; simp only [argsE, Nat.reduceAdd]
  repeat' first
           | (with_reducible apply go_op)
           | (with_reducible apply go_next)
           | ((with_reducible (show evOp _ _ _ _ _ _)); first
             | ((with_reducible (show evOp _ (.move _) _ _ _ _)) ; first | ((with_reducible apply go_mv_int); rfl; rfl) | ((with_reducible apply go_mv_sl); rfl; rfl))
             | ((with_reducible apply go_as))
             | (((with_reducible apply go_cmp); rfl; rfl; rfl; rfl))
             | ((with_reducible (show evOp _ (.call _) _ _ _ _)) ; first | ((with_reducible apply go_len); rfl; rfl) | ((with_reducible apply go_fn_int); rfl; (exact h1); rfl)))
           | ((with_reducible (show evOps _ _ _ _ _ _)); first
             | (with_reducible apply go_nil))
           | ((with_reducible (show evG _ _ _ _ _)); first
             | (with_reducible apply go_seq)
             | (with_reducible apply go_region)
             | ((with_reducible apply go_cond_f); rfl; rfl)
             | (with_reducible apply go_skipc)
             | (with_reducible apply go_block))
           | (with_reducible apply go_kseq)
  all_goals try (exfalso; omega)
  refine go_count l.length (fun i => ⟨[(13, .int .i64 i), (12, .int .i64 l.length), (11, .sl (l.map encPt)), (0, .sl (l.map encPt))], [], 32, 30⟩) (fun i => ∀ j (hj : j < l.length), j < i → (l.take j).any (ptEq l[j]) = false)
    (entails_eq (nx := 32) (k := 0) (ns := []) (ks := [13, 12, 11, 0]) [] rfl (by simp) (by kernel_rfl)) (fun j hj h => absurd h (Nat.not_lt_zero _)) ?_
  intro i hi hC
  by_cases hlt : i < l.length
  · have k1 := c_ContainsPt (l.take i) (by rw [List.length_take]; omega) l[i]
    have hyes : (l.take i).any (ptEq l[i]) = true → patchE l = 5 := fun h => by rw [ep, if_pos (dup_yes hlt h)]
    generalize hv : (l.take i).any (ptEq l[i]) = v at *
    repeat' first
           | (with_reducible apply go_op)
           | (with_reducible apply go_next)
           | ((with_reducible (show evOp _ _ _ _ _ _)); first
             | ((with_reducible (show evOp _ (.move _) _ _ _ _)) ; first | ((with_reducible apply go_mv_int); rfl; rfl) | ((with_reducible apply go_mv_sl); rfl; rfl))
             | ((with_reducible apply go_as))
             | ((with_reducible (show evOp _ (.load _ _) _ _ _ _)) ; first | ((with_reducible apply go_ld_ptr); rfl; rfl; rfl) | ((with_reducible apply go_ld_agg); rfl; rfl; rfl; rfl))
             | (((with_reducible apply go_index_nat); rfl; rfl; (with_reducible rfl); (intro; rfl); rfl; omega; (intro hlt)))
             | ((with_reducible (show evOp _ (.binOp _ _ _ _ _) _ _ _ _)) ; first | ((with_reducible apply go_cmp); rfl; rfl; rfl; rfl) | ((with_reducible apply go_add); rfl; rfl; rfl; omega))
             | (((with_reducible apply go_fn_bool); rfl; (exact k1); rfl))
             | (((with_reducible apply go_st_agg); rfl; rfl; rfl; rfl; rfl; rfl; rfl))
             | (((with_reducible apply go_take_sl); rfl; rfl; (intro; rfl); rfl; omega))
             | (((with_reducible apply go_alloc); rfl; rfl; rfl)))
           | ((with_reducible (show evOps _ _ _ _ _ _)); first
             | (with_reducible apply go_nil)
             | ((with_reducible apply go_pre); rfl)
             | (with_reducible apply go_pre_nil)
             | ((with_reducible apply go_suf); rfl)
             | (with_reducible apply go_suf_nil))
           | ((with_reducible (show evG _ _ _ _ _)); first
             | (with_reducible apply go_seq)
             | (with_reducible apply go_region)
             | (((with_reducible apply go_cond); rfl) <;> (intro h; simp only [h]; try simp only [decide_eq_true_eq, decide_eq_false_iff_not, Bool.not_eq_true', Bool.not_eq_false', Bool.not_true, Bool.not_false] at h; try exact absurd trivial h))
             | ((with_reducible apply go_order); kernel_rfl; rfl)
             | (with_reducible apply go_ret)
             | (with_reducible apply go_skipc)
             | (with_reducible apply go_block)
             | (with_reducible apply go_exit))
           | (with_reducible apply go_kseq)
           | (with_reducible apply go_ksuf)
           | (with_reducible apply go_kseq_ret)
           | (with_reducible apply go_kblock)
           | (with_reducible apply go_kblock_ret)
           | (with_reducible apply go_kblock_exit)
           | (with_reducible apply go_kseq_exit)
           | ((with_reducible apply end_int); rfl)
    all_goals try (exfalso; omega)
    all_goals first
      | exact (hyes (by assumption)).symm
      | (refine ⟨by omega, fun j hj hji => ?_, entails_eq (nx := 32) (k := 0) (ns := []) (ks := [13, 12, 11, 0]) [] rfl (by simp) (by kernel_rfl)⟩
         rcases Nat.lt_succ_iff_lt_or_eq.1 hji with h' | rfl
         · exact hC j hj h'
         · exact hv.trans (by assumption))
  · have hd : dupB l = false := dup_no fun j hj => hC j hj (by omega)
    rw [hd] at ep
    rw [ep]
    generalize hullR l = H at *
    generalize farL l = v at *
    repeat' first
           | (with_reducible apply go_op)
           | (with_reducible apply go_next)
           | ((with_reducible (show evOp _ _ _ _ _ _)); first
             | ((with_reducible (show evOp _ (.move _) _ _ _ _)) ; first | ((with_reducible apply go_mv_int); rfl; rfl) | ((with_reducible apply go_mv_sl); rfl; rfl))
             | ((with_reducible apply go_as))
             | ((with_reducible (show evOp _ (.load _ _) _ _ _ _)) ; first | ((with_reducible apply go_ld_ptr); rfl; rfl; rfl) | ((with_reducible apply go_ld_agg); rfl; rfl; rfl; rfl))
             | (((with_reducible apply go_index_nat); rfl; rfl; (with_reducible rfl); (intro; rfl); rfl; omega; (intro hlt)))
             | (((with_reducible apply go_cmp); rfl; rfl; rfl; rfl))
             | ((with_reducible (show evOp _ (.call _) _ _ _ _)) ; first | ((with_reducible apply go_len_own); rfl; rfl; rfl) | ((with_reducible apply go_fn_bool); rfl; (exact h2); rfl) | ((with_reducible apply go_fn_fr); rfl; (exact h3); (exact scalPt); rfl))
             | (((with_reducible apply go_st_agg); rfl; rfl; rfl; rfl; rfl; rfl; rfl))
             | (((with_reducible apply go_take_sl); rfl; rfl; (intro; rfl); rfl; omega))
             | (((with_reducible apply go_alloc); rfl; rfl; rfl)))
           | ((with_reducible (show evOps _ _ _ _ _ _)); first
             | (with_reducible apply go_nil)
             | ((with_reducible apply go_pre); rfl))
           | ((with_reducible (show evG _ _ _ _ _)); first
             | (with_reducible apply go_seq)
             | (with_reducible apply go_region)
             | (((with_reducible apply go_cond); rfl) <;> (intro h; simp only [h]; try simp only [decide_eq_true_eq, decide_eq_false_iff_not, Bool.not_eq_true', Bool.not_eq_false', Bool.not_true, Bool.not_false] at h; try exact absurd trivial h))
             | ((with_reducible apply go_order); kernel_rfl; rfl)
             | (with_reducible apply go_ret)
             | (with_reducible apply go_skipc)
             | (with_reducible apply go_block)
             | (with_reducible apply go_exit))
           | (with_reducible apply go_kseq)
           | (with_reducible apply go_kseq_ret)
           | (with_reducible apply go_kblock_exit)
           | (with_reducible apply go_kseq_exit)
           | ((with_reducible apply end_int); rfl)
    all_goals try (exfalso; omega)
    all_goals first
      | (simp; done)
      | (rw [if_neg (by simp), if_neg (by simp), if_pos (by omega)])
      | (rw [if_neg (by simp), if_neg (by simp), if_neg (by omega)])
      | trace_state
end Go.Pv.Geo

set_option linter.unusedVariables false
set_option linter.unusedSimpArgs false
set_option maxRecDepth 100000
namespace Go.Pv.Geo
open Go Go.Proofs Go.Pv Cov
open Classical
section
variable {l : List Pt} {B M C : Int} {W : Nat → Int}
theorem ptL_mem {i : Nat} (hi : i < l.length) : ptL l i ∈ l := by rw [ptL_get hi]; exact List.getElem_mem _
theorem tri_iff0 (hw : Wts l B W M C) (hok : ∀ p ∈ l, ptOK p = true) (hn : l.Nodup) {a b c : Nat} (ha : a < l.length) (hb : b < l.length) (hc : c < l.length) (hcr : 0 < crT l a b c) (kb : key (ptL l a) < key (ptL l b)) (kc : key (ptL l a) < key (ptL l c)) :
    (cfg l W C).tri a b c ↔ belL l (ptL l a) (ptL l b) (ptL l c) = true := by
  constructor
  · intro h
    refine bel_yes fun j hj => ?_
    rw [← ptL_get hj]
    by_cases ja : j = a
    · subst ja
      unfold badP
      have e1 : detE (ptL l j) (ptL l b) (ptL l c) (ptL l j) = 0 := by simp only [detE, nrm, crs]; grind
      have e2 : crossE (ptL l b) (ptL l c) (ptL l j) = crT l j b c := by simp only [crT, crossE]; grind
      rw [e1, e2, decide_eq_false (show ¬ key (ptL l j) < key (ptL l j) by omega), decide_eq_false (show ¬ crT l j b c < 0 by omega)]
      rfl
    · by_cases jb : j = b
      · subst jb
        unfold badP
        have e1 : detE (ptL l a) (ptL l j) (ptL l c) (ptL l j) = 0 := by simp only [detE, nrm, crs]; grind
        have e2 : crossE (ptL l j) (ptL l c) (ptL l j) = 0 := by simp only [crossE]; grind
        rw [e1, e2, decide_eq_false (show ¬ key (ptL l j) < key (ptL l a) by omega)]
        rfl
      · by_cases jc : j = c
        · subst jc
          unfold badP
          have e1 : detE (ptL l a) (ptL l b) (ptL l j) (ptL l j) = 0 := by simp only [detE, nrm, crs]; grind
          have e2 : crossE (ptL l b) (ptL l j) (ptL l j) = 0 := by simp only [crossE]; grind
          rw [e1, e2, decide_eq_false (show ¬ key (ptL l j) < key (ptL l a) by omega)]
          rfl
        · exact (ab_bad hw hok hn ha hb hc hj ja jb jc hcr kb kc).2.1 (h.2.2 j hj ja jb jc)
  · intro h
    refine ⟨⟨ha, hb, hc⟩, hcr, fun d hd da db dc => (ab_bad hw hok hn ha hb hc hd da db dc hcr kb kc).2.2 ?_⟩
    cases e : badP (ptL l a) (ptL l b) (ptL l c) (ptL l d) with
    | false => rfl
    | true => rw [bel_no (ptL_mem hd) e] at h; cases h
theorem crT_rot (a b c : Nat) : crT l b c a = crT l a b c := by unfold crT crossE; grind
theorem tri_iff (hw : Wts l B W M C) (hok : ∀ p ∈ l, ptOK p = true) (hn : l.Nodup) {a b c : Nat} (ha : a < l.length) (hb : b < l.length) (hc : c < l.length) : (cfg l W C).tri a b c ↔ yes l a b c = true := by
  unfold yes
  rw [Bool.and_eq_true, decide_eq_true_eq]
  by_cases hcr : 0 < crT l a b c
  rotate_left
  · exact ⟨fun h => absurd h.2.1 hcr, fun h => absurd h.1 hcr⟩
  have hne := cross_ne hcr
  have nab := key_ne hn hok ha hb (fun e => hne.1 (by rw [e]))
  have nbc := key_ne hn hok hb hc (fun e => hne.2.1 (by rw [e]))
  have nac := key_ne hn hok ha hc (fun e => hne.2.2 (by rw [e]))
  have main : (cfg l W C).tri a b c ↔ belT l a b c = true := by
    unfold belT
    by_cases h1 : key (ptL l b) < key (ptL l a)
    · by_cases h2 : key (ptL l c) < key (ptL l b)
      · rw [rot_2 (by omega) h2]
        have h3 : 0 < crT l c a b := by rw [← crT_rot, crT_rot, ← crT_rot, crT_rot]; have := crT_rot (l := l) a b c; have := crT_rot (l := l) b c a; omega
        rw [← tri_iff0 hw hok hn hc ha hb h3 (by omega) h2]
        exact ⟨fun h => tri_rot (tri_rot h), fun h => tri_rot h⟩
      · rw [rot_1 h1 h2]
        have h3 : 0 < crT l b c a := by rw [crT_rot]; exact hcr
        rw [← tri_iff0 hw hok hn hb hc ha h3 (by omega) h1]
        exact ⟨fun h => tri_rot h, fun h => tri_rot (tri_rot h)⟩
    · by_cases h2 : key (ptL l c) < key (ptL l a)
      · rw [rot_2 h2 (by omega)]
        have h3 : 0 < crT l c a b := by have := crT_rot (l := l) a b c; have := crT_rot (l := l) b c a; omega
        rw [← tri_iff0 hw hok hn hc ha hb h3 h2 (by omega)]
        exact ⟨fun h => tri_rot (tri_rot h), fun h => tri_rot h⟩
      · rw [rot_0 h1 h2]
        exact tri_iff0 hw hok hn ha hb hc hcr (by omega) (by omega)
  rw [main]
  exact ⟨fun h => ⟨hcr, h⟩, fun h => h.2⟩
theorem cfg_ok (hw : Wts l B W M C) (hok : ∀ p ∈ l, ptOK p = true) (hn : l.Nodup) : (cfg l W C).OK := by
  refine ⟨fun i j hi hj hne h => pt_ne hn hi hj hne ?_, fun a b c d ha hb hc hd da db dc hcr => ?_, ?_⟩
  · have h1 : (ptL l i).x = (ptL l j).x := h.1
    have h2 : (ptL l i).y = (ptL l j).y := h.2
    generalize ptL l i = P at *
    generalize ptL l j = Q at *
    cases P; cases Q
    simp only at h1 h2
    subst h1 h2
    rfl
  · have hcr' : 0 < crT l a b c := hcr
    have hne := cross_ne hcr'
    have nab := key_ne hn hok ha hb (fun e => hne.1 (by rw [e]))
    have nbc := key_ne hn hok hb hc (fun e => hne.2.1 (by rw [e]))
    have nac := key_ne hn hok ha hc (fun e => hne.2.2 (by rw [e]))
    have r1 := crT_rot (l := l) a b c
    have r2 := crT_rot (l := l) b c a
    by_cases h1 : key (ptL l b) < key (ptL l a)
    · by_cases h2 : key (ptL l c) < key (ptL l b)
      · rw [← ab_rot, ← ab_rot]
        exact (ab_bad hw hok hn hc ha hb hd dc da db (by omega) (by omega) h2).1
      · rw [← ab_rot]
        exact (ab_bad hw hok hn hb hc ha hd db dc da (by omega) (by omega) h1).1
    · by_cases h2 : key (ptL l c) < key (ptL l a)
      · rw [← ab_rot, ← ab_rot]
        exact (ab_bad hw hok hn hc ha hb hd dc da db (by omega) h2 (by omega)).1
      · exact (ab_bad hw hok hn ha hb hc hd da db dc hcr' (by omega) (by omega)).1
  · intro v p q r hv hp hq hr pv qv rv k1 k2 k3 p1 p2 p3 hk hx hy
    have hC : 0 < C := by
      have := hw.c
      have := hw.b
      have := Int.mul_pos (show 0 < B by omega) hw.m
      omega
    have sq : ∀ i, i < l.length → i ≠ v → 1 ≤ ((ptL l i).x - (ptL l v).x) * ((ptL l i).x - (ptL l v).x) + ((ptL l i).y - (ptL l v).y) * ((ptL l i).y - (ptL l v).y) := fun i hi hne => by
      have := sq_pos2 (u := (ptL l i).x - (ptL l v).x) (v := (ptL l i).y - (ptL l v).y) fun h => pt_ne hn hi hv hne (by
        have h1 : (ptL l i).x = (ptL l v).x := by omega
        have h2 : (ptL l i).y = (ptL l v).y := by omega
        generalize ptL l i = P at *
        generalize ptL l v = Q at *
        cases P; cases Q
        simp only at h1 h2
        subst h1 h2
        rfl)
      omega
    have s1 := Int.mul_le_mul_of_nonneg_left (sq p hp pv) p1
    have s2 := Int.mul_le_mul_of_nonneg_left (sq q hq qv) p2
    have s3 := Int.mul_le_mul_of_nonneg_left (sq r hr rv) p3
    have w1 := Int.mul_le_mul_of_nonneg_left (show W p - W v ≤ M by have := hw.le p hp; have := hw.pos v; omega) p1
    have w2 := Int.mul_le_mul_of_nonneg_left (show W q - W v ≤ M by have := hw.le q hq; have := hw.pos v; omega) p2
    have w3 := Int.mul_le_mul_of_nonneg_left (show W r - W v ≤ M by have := hw.le r hr; have := hw.pos v; omega) p3
    have hMC : M < C := by
      have h1 := hw.c
      have h2 := Int.mul_le_mul_of_nonneg_right (show 1 ≤ B by have := hw.b; omega) (Int.le_of_lt hw.m)
      omega
    have e : k1 * ((cfg l W C).h p - (cfg l W C).h v) + k2 * ((cfg l W C).h q - (cfg l W C).h v) + k3 * ((cfg l W C).h r - (cfg l W C).h v) =
        C * (k1 * (((ptL l p).x - (ptL l v).x) * ((ptL l p).x - (ptL l v).x) + ((ptL l p).y - (ptL l v).y) * ((ptL l p).y - (ptL l v).y)) + k2 * (((ptL l q).x - (ptL l v).x) * ((ptL l q).x - (ptL l v).x) + ((ptL l q).y - (ptL l v).y) * ((ptL l q).y - (ptL l v).y)) + k3 * (((ptL l r).x - (ptL l v).x) * ((ptL l r).x - (ptL l v).x) + ((ptL l r).y - (ptL l v).y) * ((ptL l r).y - (ptL l v).y)))
          - (k1 * (W p - W v) + k2 * (W q - W v) + k3 * (W r - W v)) := by
      simp only [cfg] at hx hy ⊢
      grind
    rw [e]
    have t1 := Int.mul_le_mul_of_nonneg_left (show k1 + k2 + k3 ≤ k1 * (((ptL l p).x - (ptL l v).x) * ((ptL l p).x - (ptL l v).x) + ((ptL l p).y - (ptL l v).y) * ((ptL l p).y - (ptL l v).y)) + k2 * (((ptL l q).x - (ptL l v).x) * ((ptL l q).x - (ptL l v).x) + ((ptL l q).y - (ptL l v).y) * ((ptL l q).y - (ptL l v).y)) + k3 * (((ptL l r).x - (ptL l v).x) * ((ptL l r).x - (ptL l v).x) + ((ptL l r).y - (ptL l v).y) * ((ptL l r).y - (ptL l v).y)) by omega) (Int.le_of_lt hC)
    have t2 := Int.mul_lt_mul_of_pos_left hMC hk
    have t3 : (k1 + k2 + k3) * M = k1 * M + k2 * M + k3 * M := by grind
    have t4 : (k1 + k2 + k3) * C = C * (k1 + k2 + k3) := Int.mul_comm _ _
    omega
/-- The number of a point. -/
noncomputable def numP (l : List Pt) (p : Pt) : Nat := Classical.epsilon fun k => k < l.length ∧ ptL l k = p
theorem numP_ok {p : Pt} (h : p ∈ l) : numP l p < l.length ∧ ptL l (numP l p) = p := by
  obtain ⟨k, hk, e⟩ := List.getElem_of_mem h
  exact Classical.epsilon_spec (p := fun k => k < l.length ∧ ptL l k = p) ⟨k, hk, by rw [ptL_get hk]; exact e⟩
theorem on_dot {a b p : Pt} (h : onE a b p = true) : p = a ∨ p = b ∨ 0 < (p.x - a.x) * (b.x - p.x) + (p.y - a.y) * (b.y - p.y) := by
  unfold onE at h
  rw [decide_eq_true_eq] at h
  obtain ⟨h0, hx, hy⟩ := h
  have q1 : 0 ≤ (p.x - a.x) * (b.x - p.x) := by
    rcases Int.le_total a.x b.x with h | h
    · exact Int.mul_nonneg (by omega) (by omega)
    · exact Int.mul_nonneg_of_nonpos_of_nonpos (by omega) (by omega)
  have q2 : 0 ≤ (p.y - a.y) * (b.y - p.y) := by
    rcases Int.le_total a.y b.y with h | h
    · exact Int.mul_nonneg (by omega) (by omega)
    · exact Int.mul_nonneg_of_nonpos_of_nonpos (by omega) (by omega)
  rcases Int.lt_or_le 0 ((p.x - a.x) * (b.x - p.x) + (p.y - a.y) * (b.y - p.y)) with h3 | h3
  · exact .inr (.inr h3)
  · have e1 : (p.x - a.x) * (b.x - p.x) = 0 := by omega
    have e2 : (p.y - a.y) * (b.y - p.y) = 0 := by omega
    unfold crossE at h0
    obtain ⟨ax, ay⟩ := a; obtain ⟨bx, by'⟩ := b; obtain ⟨px, py⟩ := p
    simp only at *
    rcases Int.mul_eq_zero.1 e1 with f1 | f1 <;> rcases Int.mul_eq_zero.1 e2 with f2 | f2
    · left
      rw [show px = ax by omega, show py = ay by omega]
    · -- p.x = a.x, p.y = b.y
      have g1 : px = ax := by omega
      have g2 : py = by' := by omega
      subst g1 g2
      have : (bx - px) * (py - ay) = 0 := by grind
      rcases Int.mul_eq_zero.1 this with f | f
      · right; left
        rw [show bx = px by omega]
      · left
        rw [show py = ay by omega]
    · have g1 : px = bx := by omega
      have g2 : py = ay := by omega
      subst g1 g2
      have : (by' - py) * (px - ax) = 0 := by grind
      rcases Int.mul_eq_zero.1 this with f | f
      · right; left
        rw [show by' = py by omega]
      · left
        rw [show px = ax by omega]
    · right; left
      rw [show px = bx by omega, show py = by' by omega]
theorem num_self (hn : l.Nodup) {e : Nat} (he : e < l.length) : numP l (ptL l e) = e := by
  have h := numP_ok (ptL_mem he)
  exact Decidable.byContradiction fun hne => pt_ne hn h.1 he hne h.2
theorem cfg_hull (hn : l.Nodup) {H : List Pt} (h : HullOf l H) (h3 : 3 ≤ H.length) : (cfg l W C).Hull H.length fun i => numP l (cornerP H i) := by
  have hp : ∀ i, numP l (cornerP H i) < l.length ∧ ptL l (numP l (cornerP H i)) = cornerP H i := fun i => numP_ok (h.memC i)
  have ncr : ∀ i e, (cfg l W C).cr (numP l (cornerP H i)) (numP l (cornerP H (i + 1))) e = crossE (cornerP H i) (cornerP H (i + 1)) (ptL l e) := fun i e => by
    show crossE (ptL l (numP l (cornerP H i))) (ptL l (numP l (cornerP H (i + 1)))) (ptL l e) = _
    rw [(hp i).2, (hp (i + 1)).2]
  refine ⟨h3, fun i => ?_, fun i => (hp i).1, fun i j hi hj e => ?_, fun i e he => ?_, fun i j n1 n2 => ?_, fun i e he h0 => ?_⟩
  · show numP l (cornerP H (i + H.length)) = numP l (cornerP H i)
    rw [corner_per]
  · have e : numP l (cornerP H i) = numP l (cornerP H j) := e
    have e' : cornerP H i = cornerP H j := by rw [← (hp i).2, ← (hp j).2, e]
    have := h.inj e'
    rwa [Nat.mod_eq_of_lt hi, Nat.mod_eq_of_lt hj] at this
  · rw [ncr]
    exact (h.edgeC i).left _ (ptL_mem he)
  · show 0 < (cfg l W C).cr (numP l (cornerP H i)) (numP l (cornerP H (i + 1))) (numP l (cornerP H j))
    rw [ncr, (hp j).2]
    exact h.strict (fun e => n1 (by show numP l (cornerP H j) = numP l (cornerP H i); rw [corner_mod e])) (fun e => n2 (by show numP l (cornerP H j) = numP l (cornerP H (i + 1)); rw [corner_mod e]))
  · have h0 : (cfg l W C).cr (numP l (cornerP H i)) (numP l (cornerP H (i + 1))) e = 0 := h0
    rw [ncr] at h0
    have ho := (h.edgeC i).on (ptL_mem he) h0
    by_cases e1 : e = numP l (cornerP H i)
    · exact .inl e1
    · by_cases e2 : e = numP l (cornerP H (i + 1))
      · exact .inr (.inl e2)
      · right; right
        show 0 < ((ptL l e).x - (ptL l (numP l (cornerP H i))).x) * ((ptL l (numP l (cornerP H (i + 1)))).x - (ptL l e).x) + ((ptL l e).y - (ptL l (numP l (cornerP H i))).y) * ((ptL l (numP l (cornerP H (i + 1)))).y - (ptL l e).y)
        rw [(hp i).2, (hp (i + 1)).2]
        rcases on_dot ho with q | q | q
        · exact absurd (by rw [← q, num_self hn he]) e1
        · exact absurd (by rw [← q, num_self hn he]) e2
        · exact q
end
end Go.Pv.Geo

set_option linter.unusedVariables false
set_option linter.unusedSimpArgs false
set_option maxRecDepth 100000
namespace Go.Pv.Geo
open Go Go.Proofs Go.Pv Cov
open Classical
/-! What the law sums up: plain. -/
/-- The sum over a list. -/
def ls {α : Type} (F : α → Int) : List α → Int
  | [] => 0
  | a :: t => F a + ls F t
theorem ls_append {α : Type} (F : α → Int) : ∀ (u v : List α), ls F (u ++ v) = ls F u + ls F v
  | [], v => by simp [ls]
  | a :: u, v => by
    show F a + ls F (u ++ v) = F a + ls F u + ls F v
    rw [ls_append F u v]
    omega
theorem ls_acc {α : Type} (F : α → Int) (f : Nat → List α) : ∀ k, ls F (accF f k) = S k fun i => ls F (f i)
  | 0 => rfl
  | k + 1 => by
    rw [accF, ls_append, ls_acc F f k]
    rfl
theorem ls_len {α : Type} : ∀ u : List α, ls (fun _ => 1) u = u.length
  | [] => rfl
  | a :: u => by
    show 1 + ls (fun _ => 1) u = _
    rw [ls_len u]
    simp
    omega
theorem S_split (F : Nat → Int) (m : Nat) : ∀ k, S (m + k) F = S m F + S k fun i => F (m + i)
  | 0 => by simp [S]
  | k + 1 => by
    show S (m + k) F + F (m + k) = S m F + (S k (fun i => F (m + i)) + F (m + k))
    rw [S_split F m k]
    omega
theorem S_from (F : Nat → Int) {a n : Nat} (ha : a < n) : S n (fun j => if a < j then F j else 0) = S (n - (a + 1)) fun m => F (a + 1 + m) := by
  obtain ⟨k, rfl⟩ : ∃ k, n = (a + 1) + k := ⟨n - (a + 1), by omega⟩
  rw [S_split, S_zero (a + 1) fun j hj => if_neg (by omega), show a + 1 + k - (a + 1) = k by omega, Int.zero_add]
  exact S_congr _ fun i _ => if_pos (by omega)
section
variable {l : List Pt} {B M C : Int} {W : Nat → Int}
/-- The sum over the triangles of a patch. -/
theorem ls_ref (hw : Wts l B W M C) (hok : ∀ p ∈ l, ptOK p = true) (hn : l.Nodup) (F : BT → Int) (w : Nat → Nat → Nat → Int) (hF : ∀ a b c, a < l.length → b < l.length → c < l.length → yes l a b c = true → F (mkB a b c) = w a b c) :
    ls F (refL l l.length) = (cfg l W C).T1 w := by
  unfold refL
  rw [ls_acc]
  show _ = S l.length fun i => S l.length fun j => S l.length fun k => if i < j ∧ i < k then (cfg l W C).t i j k * w i j k else 0
  refine S_congr _ fun a ha => ?_
  unfold refA
  rw [ls_acc]
  have h1 : ∀ j, j < l.length → S l.length (fun k => if a < j ∧ a < k then (cfg l W C).t a j k * w a j k else 0) = if a < j then S (l.length - (a + 1)) (fun q => (cfg l W C).t a j (a + 1 + q) * w a j (a + 1 + q)) else 0 := fun j hj => by
    by_cases h : a < j
    · rw [if_pos h, ← S_from (fun k => (cfg l W C).t a j k * w a j k) ha]
      refine S_congr _ fun k _ => ?_
      by_cases h2 : a < k
      · rw [if_pos ⟨h, h2⟩, if_pos h2]
      · rw [if_neg (fun hh => h2 hh.2), if_neg h2]
    · rw [if_neg h]
      exact S_zero _ fun k _ => if_neg fun hh => h hh.1
  rw [S_congr _ h1, S_from (fun j => S (l.length - (a + 1)) fun q => (cfg l W C).t a j (a + 1 + q) * w a j (a + 1 + q)) ha]
  refine S_congr _ fun m hm => ?_
  unfold refB
  rw [ls_acc]
  refine S_congr _ fun q hq => ?_
  have hb : a + 1 + m < l.length := by omega
  have hc : a + 1 + q < l.length := by omega
  unfold R3 Cfg.t
  have hi := tri_iff hw hok hn ha hb hc
  by_cases hy : yes l a (a + 1 + m) (a + 1 + q) = true
  · rw [if_pos hy, if_pos (hi.2 hy), Int.one_mul]
    show F _ + 0 = _
    rw [Int.add_zero]
    exact hF _ _ _ ha hb hc hy
  · rw [if_neg hy, if_neg (fun h => hy (hi.1 h)), Int.zero_mul]
    rfl
end
/-- A point on the border. -/
def borB (H : List Pt) (p : Pt) : Bool := (List.range H.length).any fun k => onE (cornerP H k) (cornerP H (k + 1)) p
theorem covers {l H : List Pt} (hok : ∀ p ∈ l, ptOK p = true) (hn : l.Nodup) (h : HullOf l H) (h3 : 3 ≤ H.length) (hl : l.length < 100) :
    ls (fun x : BT => crT l x.1.a.toNat x.1.b.toNat x.1.c.toNat) (refL l l.length) = (S H.length fun k => crossE (cornerP H 0) (cornerP H k) (cornerP H (k + 1))) ∧
      ((refL l l.length).length : Int) = 2 * (l.length : Int) - 2 - S l.length fun v => if borB H (ptL l v) = true then 1 else 0 := by
  obtain ⟨B, W, M, C, hw⟩ := wts_ex l
  have ok := cfg_ok hw hok hn
  have hh := cfg_hull (W := W) (C := C) hn h h3
  have inj : ∀ i j, i < (cfg l W C).n → j < (cfg l W C).n → i ≠ j → (cfg l W C).X 4000001 1 i ≠ (cfg l W C).X 4000001 1 j := fun i j hi hj hne e => by
    refine key_ne hn hok hi hj hne ?_
    have e : 4000001 * (ptL l i).x + 1 * (ptL l i).y = 4000001 * (ptL l j).x + 1 * (ptL l j).y := e
    unfold key
    omega
  have hp : ∀ i, ptL l (numP l (cornerP H i)) = cornerP H i := fun i => (numP_ok (h.memC i)).2
  constructor
  · rw [ls_ref hw hok hn _ (fun i j k => (cfg l W C).cr i j k) fun a b c ha hb hc hy => by
      rw [mkB_val (by omega) (by omega) (by omega)]
      rfl, area ok hh inj (numP l (cornerP H 0))]
    refine S_congr _ fun k _ => ?_
    show crossE (ptL l (numP l (cornerP H 0))) (ptL l (numP l (cornerP H k))) (ptL l (numP l (cornerP H (k + 1)))) = _
    rw [hp, hp, hp]
  · rw [← ls_len, ls_ref hw hok hn _ (fun _ _ _ => 1) fun _ _ _ _ _ _ _ => rfl, count ok hh inj (by
      have := h.len'
      show 2 ≤ l.length
      omega)]
    show 2 * (l.length : Int) - 2 - S l.length _ = _
    congr 1
    refine S_congr _ fun v hv => ?_
    have hb : (cfg l W C).bor H.length (fun i => numP l (cornerP H i)) v ↔ borB H (ptL l v) = true := by
      unfold borB
      rw [List.any_eq_true]
      have ncr : ∀ i, (cfg l W C).cr (numP l (cornerP H i)) (numP l (cornerP H (i + 1))) v = crossE (cornerP H i) (cornerP H (i + 1)) (ptL l v) := fun i => by
        show crossE (ptL l (numP l (cornerP H i))) (ptL l (numP l (cornerP H (i + 1)))) (ptL l v) = _
        rw [hp, hp]
      constructor
      · rintro ⟨k, hk, h0⟩
        have h0 : (cfg l W C).cr (numP l (cornerP H k)) (numP l (cornerP H (k + 1))) v = 0 := h0
        rw [ncr] at h0
        exact ⟨k, List.mem_range.2 hk, (h.edgeC k).on (ptL_mem hv) h0⟩
      · rintro ⟨k, hk, ho⟩
        refine ⟨k, List.mem_range.1 hk, ?_⟩
        show (cfg l W C).cr (numP l (cornerP H k)) (numP l (cornerP H (k + 1))) v = 0
        rw [ncr]
        unfold onE at ho
        exact (of_decide_eq_true ho).1
    by_cases hq : borB H (ptL l v) = true
    · rw [if_pos (hb.2 hq), if_pos hq]
    · rw [if_neg (fun h => hq (hb.1 h)), if_neg hq]
/-- What is so of each triangle. -/
theorem ref_each {l : List Pt} (hl : l.length < 100) {x : BT} (h : x ∈ refL l l.length) : ∃ a b c, (a < l.length ∧ b < l.length ∧ c < l.length) ∧ x.1 = ⟨a, b, c⟩ ∧ 0 < crT l a b c ∧ ∀ p ∈ l, ¬ 0 < detE (ptL l a) (ptL l b) (ptL l c) p := by
  obtain ⟨a, b, c, ha, hb, hc, _, _, hy, rfl⟩ := ref_mem.1 h
  unfold yes at hy
  rw [Bool.and_eq_true, decide_eq_true_eq] at hy
  refine ⟨a, b, c, ⟨ha, hb, hc⟩, mkB_val (by omega) (by omega) (by omega), hy.1, fun p hp hd => ?_⟩
  have hbel := hy.2
  unfold belT at hbel
  have key : ∀ q : Pt × Pt × Pt, (q = (ptL l a, ptL l b, ptL l c) ∨ q = (ptL l b, ptL l c, ptL l a) ∨ q = (ptL l c, ptL l a, ptL l b)) → 0 < detE q.1 q.2.1 q.2.2 p := fun q hq => by
    rcases hq with rfl | rfl | rfl
    · exact hd
    · show 0 < detE (ptL l b) (ptL l c) (ptL l a) p
      rw [det_rot]; exact hd
    · show 0 < detE (ptL l c) (ptL l a) (ptL l b) p
      rw [← det_rot]; exact hd
  have hq := key (rotT (ptL l a) (ptL l b) (ptL l c) 2) (by
    show rot3 (rot3 (ptL l a, ptL l b, ptL l c)) = _ ∨ rot3 (rot3 (ptL l a, ptL l b, ptL l c)) = _ ∨ rot3 (rot3 (ptL l a, ptL l b, ptL l c)) = _
    unfold rot3
    (repeat' split) <;> simp)
  rw [bel_no hp (by unfold badP; rw [decide_eq_true hq]; rfl)] at hbel
  cases hbel
end Go.Pv.Geo

open Go Go.Proofs Go.Pv
set_option maxHeartbeats 8000000
set_option maxRecDepth 100000
set_option linter.unusedSimpArgs false
set_option linter.unusedVariables false
namespace Go.Pv.Geo
end Go.Pv.Geo

open Go Go.Proofs Go.Pv
set_option maxHeartbeats 8000000
set_option maxRecDepth 100000
set_option linter.unusedSimpArgs false
set_option linter.unusedVariables false
namespace Go.Pv.Geo
end Go.Pv.Geo

open Go Go.Proofs Go.Pv
set_option maxHeartbeats 8000000
set_option maxRecDepth 100000
set_option linter.unusedSimpArgs false
set_option linter.unusedVariables false
namespace Go.Pv.Geo
end Go.Pv.Geo

open Go Go.Proofs Go.Pv
set_option maxHeartbeats 8000000
set_option maxRecDepth 100000
set_option linter.unusedSimpArgs false
set_option linter.unusedVariables false
namespace Go.Pv.Geo
/-- The triangles of a patch. -/
def triX (l : List Pt) : List Tri := if patchE l = 0 then (refL l l.length).map Subtype.val else []
theorem ref_map (l : List Pt) : (refL l l.length).map encB = ((refL l l.length).map Subtype.val).map encTri := by rw [List.map_map]; rfl
theorem ref_len {l : List Pt} (hl : l.length ≤ 24) : (refL l l.length).length ≤ 20000 := by
  have h1 : ∀ k, (refL l k).length ≤ k * 576 := accF_len (f := fun a => refA l a (l.length - (a + 1))) (B := 576) fun a => by
    have := accF_len (f := fun m => refB l a (a + 1 + m) (l.length - (a + 1))) (B := 24) (fun m => by
      have := accF_len (f := fun q => R3 l a (a + 1 + m) (a + 1 + q)) (B := 1) (fun q => R3_len _ _ _ _) (l.length - (a + 1))
      show (accF _ _).length ≤ 24
      omega) (l.length - (a + 1))
    show (accF _ _).length ≤ 576
    have h2 := Nat.mul_le_mul_right 24 (show l.length - (a + 1) ≤ 24 by omega)
    omega
  have := h1 l.length
  have h2 := Nat.mul_le_mul_right 576 hl
  omega
theorem triX_len {l : List Pt} (hl : l.length ≤ 24) : (triX l).length ≤ 20000 := by
  unfold triX; split
  · rw [List.length_map]; exact ref_len hl
  · simp
theorem c_Triangulate (l : List Pt) (hl : l.length ≤ 24 ∨ patchE l ≠ 0) (hb : l.length < 1000000000000) : Contract Try.prog 30 [.sl (l.map encPt)] (.ret (.tup [.fr 3 ((triX l).map encTri), .int .i64 (patchE l)])) := by
  have h1 := c_patchErr l hb
  by_cases hz : patchE l = 0
  rotate_left
  · rw [show triX l = [] from if_neg hz]
    generalize patchE l = e at *
    refine contract_of mix Try.func30 rfl rfl (by rw [Try.ntmps30]; exact Nat.le_of_ble_eq_true rfl) ?_; rw [Try.results30, Try.ntmps30]; simp only [argsE, Nat.reduceAdd]
    repeat' first
           | (with_reducible apply go_op)
           | (with_reducible apply go_next)
           | ((with_reducible (show evOp _ _ _ _ _ _)); first
             | ((with_reducible (show evOp _ (.move _) _ _ _ _)) ; first | ((with_reducible apply go_mv_int); rfl; rfl) | ((with_reducible apply go_mv_sl); rfl; rfl) | ((with_reducible apply go_mv_nilsl); rfl; rfl))
             | ((with_reducible apply go_as))
             | (((with_reducible apply go_cmp); rfl; rfl; rfl; rfl))
             | (((with_reducible apply go_fn_int); rfl; (exact h1); rfl)))
           | ((with_reducible (show evOps _ _ _ _ _ _)); first
             | (with_reducible apply go_nil))
           | ((with_reducible (show evG _ _ _ _ _)); first
             | (with_reducible apply go_seq)
             | (with_reducible apply go_region)
             | (((with_reducible apply go_cond); rfl) <;> (intro h; simp only [h]; try simp only [decide_eq_true_eq, decide_eq_false_iff_not, Bool.not_eq_true', Bool.not_eq_false', Bool.not_true, Bool.not_false] at h; try exact absurd trivial h))
             | (with_reducible apply go_ret)
             | (with_reducible apply go_skipc))
           | (with_reducible apply go_kseq)
           | (with_reducible apply go_kseq_ret)
    all_goals first
      | (exfalso; omega)
      | exact finK_ret (fin_nil2 rfl rfl rfl)
      | trace_state
  obtain ⟨hc, hn, hf⟩ := patch_ok hz
  obtain ⟨-, hok⟩ := chk_ok hc
  have h2 := c_triangulate l (by omega) hok hf
  rw [ref_map] at h2
  rw [show triX l = (refL l l.length).map Subtype.val from if_pos hz]
  rw [hz] at h1 ⊢
  generalize (refL l l.length).map Subtype.val = R at *
  refine contract_of mix Try.func30 rfl rfl (by rw [Try.ntmps30]; exact Nat.le_of_ble_eq_true rfl) ?_; rw [Try.results30, Try.ntmps30]; simp only [argsE, Nat.reduceAdd]
  repeat' first
           | (with_reducible apply go_op)
           | (with_reducible apply go_next)
           | ((with_reducible (show evOp _ _ _ _ _ _)); first
             | ((with_reducible (show evOp _ (.move _) _ _ _ _)) ; first | ((with_reducible apply go_mv_int); rfl; rfl) | ((with_reducible apply go_mv_sl); rfl; rfl) | ((with_reducible apply go_mv_os); rfl; rfl) | ((with_reducible apply go_mv_nilsl); rfl; rfl))
             | ((with_reducible apply go_as))
             | (((with_reducible apply go_cmp); rfl; rfl; rfl; rfl))
             | ((with_reducible (show evOp _ (.call _) _ _ _ _)) ; first | ((with_reducible apply go_fn_int); rfl; (exact h1); rfl) | ((with_reducible apply go_fn_fr); rfl; (exact h2); (exact scalTri); rfl)))
           | ((with_reducible (show evOps _ _ _ _ _ _)); first
             | (with_reducible apply go_nil))
           | ((with_reducible (show evG _ _ _ _ _)); first
             | (with_reducible apply go_seq)
             | (with_reducible apply go_region)
             | ((with_reducible apply go_cond_f); rfl; rfl)
             | (with_reducible apply go_ret)
             | (with_reducible apply go_skipc))
           | (with_reducible apply go_kseq)
  all_goals first
    | (exfalso; omega)
    | exact finK_ret (fin_fr2 rfl (by simp) rfl rfl rfl)
    | trace_state
end Go.Pv.Geo

open Go Go.Proofs Go.Pv
set_option maxRecDepth 100000
set_option linter.unusedSimpArgs false
set_option linter.unusedVariables false
namespace Go.Pv.Geo
open Cov
/-- The area of the i-th triangle of a list. -/
def gT (l : List Pt) (T : List Tri) (i : Nat) : Int := crT l (T.getD i ⟨0, 0, 0⟩).a.toNat (T.getD i ⟨0, 0, 0⟩).b.toNat (T.getD i ⟨0, 0, 0⟩).c.toNat
theorem S_shift (F : Nat → Int) : ∀ n, S (n + 1) F = F 0 + S n fun i => F (i + 1)
  | 0 => by simp [S]
  | n + 1 => by
    show S (n + 1) F + F (n + 1) = F 0 + (S n (fun i => F (i + 1)) + F (n + 1))
    rw [S_shift F n]; omega
theorem gT_ls (l : List Pt) : ∀ u : List BT, S u.length (gT l (u.map Subtype.val)) = ls (fun x : BT => crT l x.1.a.toNat x.1.b.toNat x.1.c.toNat) u
  | [] => rfl
  | x :: u => by
    show S (u.length + 1) _ = crT l x.1.a.toNat x.1.b.toNat x.1.c.toNat + ls _ u
    rw [S_shift, ← gT_ls l u]
    rfl
theorem S_bd {F : Nat → Int} {B : Int} (h : ∀ i, -B ≤ F i ∧ F i ≤ B) : ∀ n : Nat, -(B * n) ≤ S n F ∧ S n F ≤ B * n
  | 0 => by simp [S]
  | n + 1 => by
    have h1 := S_bd h n
    have h2 := h n
    show -(B * ((n + 1 : Nat) : Int)) ≤ S n F + F n ∧ S n F + F n ≤ B * ((n + 1 : Nat) : Int)
    rw [show ((n + 1 : Nat) : Int) = (n : Int) + 1 by omega, Int.mul_add, Int.mul_one]
    omega
theorem S_step (F : Nat → Int) (n : Nat) : S (n + 1) F = S n F + F n := rfl
/-- The area of the k-th triangle of a hull. -/
def fH (H : List Pt) (k : Nat) : Int := crossE (cornerP H 0) (cornerP H k) (cornerP H (k + 1))
/-- Whether the v-th point lies on the border. -/
def borI (l H : List Pt) (v : Nat) : Int := if borB H (ptL l v) = true then 1 else 0
/-- What the law asks of the triangles of a patch. -/
theorem tri_all {l : List Pt} (h24 : l.length ≤ 24) (hz : patchE l = 0) :
    3 ≤ (hullR l).length ∧ HullOf l (hullR l) ∧ (∀ i (hi : i < (triX l).length), ∃ a b c, (a < l.length ∧ b < l.length ∧ c < l.length) ∧ (triX l)[i] = ⟨a, b, c⟩ ∧ 0 < crT l a b c ∧ ∀ p ∈ l, ¬ 0 < detE (ptL l a) (ptL l b) (ptL l c) p) ∧
    S (triX l).length (gT l (triX l)) = S (hullR l).length (fH (hullR l)) ∧
    ((triX l).length : Int) = 2 * (l.length : Int) - 2 - S l.length (borI l (hullR l)) := by
  obtain ⟨hc, hn, hf⟩ := patch_ok hz
  obtain ⟨-, hok⟩ := chk_ok hc
  have h3 : 3 ≤ (hullR l).length := by
    unfold patchE at hz
    (repeat' split at hz) <;> omega
  have hH : HullOf l (hullR l) := (hullR_of hok (by
    apply Classical.byContradiction; intro hn
    have e : hullR l = ordL l := if_pos (by omega)
    rw [e] at h3; omega)).1
  have hcov := covers hok hn hH h3 (by omega)
  rw [show triX l = (refL l l.length).map Subtype.val from if_pos hz]
  refine ⟨h3, hH, fun i hi => ?_, ?_, ?_⟩
  · rw [List.length_map] at hi
    rw [List.getElem_map]
    exact ref_each (by omega) (List.getElem_mem hi)
  · rw [List.length_map, gT_ls]; exact hcov.1
  · rw [List.length_map]; exact hcov.2
/-- The point lies on one of the first k edges. -/
def onT (H : List Pt) (p : Pt) (k : Nat) : Bool := (List.range k).any fun m => onE (cornerP H m) (cornerP H (m + 1)) p
theorem onT_step (H : List Pt) (p : Pt) (k : Nat) : onT H p (k + 1) = (onT H p k || onE (cornerP H k) (cornerP H (k + 1)) p) := by
  unfold onT; rw [List.range_succ, List.any_append]; simp
theorem sign_ngt {u v : Int} (hu : ¬ 0 < u) (hv : 0 < v) : ¬ 0 < signE u * signE v := by
  rw [show signE v = 1 by unfold signE; (repeat' split) <;> omega, Int.mul_one]
  unfold signE; (repeat' split) <;> omega
theorem borI_bd (l H : List Pt) (i : Nat) : -1 ≤ borI l H i ∧ borI l H i ≤ 1 := by
  unfold borI; split <;> omega
theorem gT_bd {l : List Pt} (hok : ∀ p ∈ l, ptOK p = true) (T : List Tri) {i : Nat} (hi : i < T.length) {a b c : Nat} (h : a < l.length ∧ b < l.length ∧ c < l.length) (e : T[i] = ⟨a, b, c⟩) : gT l T i = crossE (l[a]'h.1) (l[b]'h.2.1) (l[c]'h.2.2) := by
  unfold gT
  rw [List.getD_eq_getElem?_getD, List.getElem?_eq_getElem hi]
  show crT l T[i].a.toNat T[i].b.toNat T[i].c.toNat = _
  rw [e]
  exact crT_get h.1 h.2.1 h.2.2
end Go.Pv.Geo

open Go Go.Proofs Go.Pv
set_option maxHeartbeats 4000000
set_option maxRecDepth 100000
set_option linter.unusedSimpArgs false
set_option linter.unusedVariables false
namespace Go.Pv.Geo
end Go.Pv.Geo

open Go Go.Proofs Go.Pv
set_option maxHeartbeats 4000000
set_option maxRecDepth 100000
set_option linter.unusedSimpArgs false
set_option linter.unusedVariables false
namespace Go.Pv.Geo
end Go.Pv.Geo

open Go Go.Proofs Go.Pv
set_option maxHeartbeats 8000000
set_option maxRecDepth 100000
set_option linter.unusedSimpArgs false
set_option linter.unusedVariables false
namespace Go.Pv.Geo
/-- The hull and its error. -/
def hullX (l : List Pt) : List Pt := if chkE l = 0 then hullR l else []
theorem c_Hull (l : List Pt) (hl : l.length < 1000000000000) : Contract Try.prog 25 [.sl (l.map encPt)] (.ret (.tup [.fr 2 ((hullX l).map encPt), .int .i64 (chkE l)])) := by
  have h1 := c_Check l hl
  by_cases hz : chkE l = 0
  · obtain ⟨h64, hok⟩ := chk_ok hz
    have h2 := c_hull l (by omega) hok
    rw [hz] at h1 ⊢
    rw [show hullX l = hullR l from if_pos hz]
    refine contract_of mix Try.func25 rfl rfl (by rw [Try.ntmps25]; exact Nat.le_of_ble_eq_true rfl) ?_; rw [Try.results25, Try.ntmps25]; simp only [argsE, Nat.reduceAdd]
    repeat' first
           | (with_reducible apply go_op)
           | (with_reducible apply go_next)
           | ((with_reducible (show evOp _ _ _ _ _ _)); first
             | ((with_reducible (show evOp _ (.move _) _ _ _ _)) ; first | ((with_reducible apply go_mv_int); rfl; rfl) | ((with_reducible apply go_mv_sl); rfl; rfl) | ((with_reducible apply go_mv_os); rfl; rfl) | ((with_reducible apply go_mv_nilsl); rfl; rfl))
             | ((with_reducible apply go_as))
             | (((with_reducible apply go_cmp); rfl; rfl; rfl; rfl))
             | ((with_reducible (show evOp _ (.call _) _ _ _ _)) ; first | ((with_reducible apply go_fn_int); rfl; (exact h1); rfl) | ((with_reducible apply go_fn_fr); rfl; (exact h2); (exact scalPt); rfl)))
           | ((with_reducible (show evOps _ _ _ _ _ _)); first
             | (with_reducible apply go_nil))
           | ((with_reducible (show evG _ _ _ _ _)); first
             | (with_reducible apply go_seq)
             | (with_reducible apply go_region)
             | ((with_reducible apply go_cond_f); rfl; rfl)
             | (with_reducible apply go_ret)
             | (with_reducible apply go_skipc))
           | (with_reducible apply go_kseq)
    all_goals first
      | (exfalso; omega)
      | exact finK_ret (fin_fr2 rfl (by simp) rfl rfl rfl)
      | trace_state
  · rw [show hullX l = [] from if_neg hz]
    generalize chkE l = e at *
    refine contract_of mix Try.func25 rfl rfl (by rw [Try.ntmps25]; exact Nat.le_of_ble_eq_true rfl) ?_; rw [Try.results25, Try.ntmps25]; simp only [argsE, Nat.reduceAdd]
    repeat' first
           | (with_reducible apply go_op)
           | (with_reducible apply go_next)
           | ((with_reducible (show evOp _ _ _ _ _ _)); first
             | ((with_reducible (show evOp _ (.move _) _ _ _ _)) ; first | ((with_reducible apply go_mv_int); rfl; rfl) | ((with_reducible apply go_mv_sl); rfl; rfl) | ((with_reducible apply go_mv_nilsl); rfl; rfl))
             | ((with_reducible apply go_as))
             | (((with_reducible apply go_cmp); rfl; rfl; rfl; rfl))
             | (((with_reducible apply go_fn_int); rfl; (exact h1); rfl)))
           | ((with_reducible (show evOps _ _ _ _ _ _)); first
             | (with_reducible apply go_nil))
           | ((with_reducible (show evG _ _ _ _ _)); first
             | (with_reducible apply go_seq)
             | (with_reducible apply go_region)
             | (((with_reducible apply go_cond); rfl) <;> (intro h; simp only [h]; try simp only [decide_eq_true_eq, decide_eq_false_iff_not, Bool.not_eq_true', Bool.not_eq_false', Bool.not_true, Bool.not_false] at h; try exact absurd trivial h))
             | (with_reducible apply go_ret)
             | (with_reducible apply go_skipc))
           | (with_reducible apply go_kseq)
           | (with_reducible apply go_kseq_ret)
    all_goals first
      | (exfalso; omega)
      | exact finK_ret (fin_nil2 rfl rfl rfl)
      | trace_state
end Go.Pv.Geo

open Go Go.Proofs Go.Pv
set_option maxHeartbeats 4000000
set_option maxRecDepth 100000
set_option linter.unusedSimpArgs false
set_option linter.unusedVariables false
namespace Go.Pv.Geo
end Go.Pv.Geo

open Go Go.Proofs Go.Pv
set_option maxHeartbeats 8000000
set_option maxRecDepth 100000
set_option linter.unusedSimpArgs false
set_option linter.unusedVariables false
namespace Go.Pv.Geo
theorem sign_gt {n : Int} (h : 0 < n) : 0 < signE n := by unfold signE; (repeat' split) <;> omega
end Go.Pv.Geo

open Go Go.Proofs Go.Pv
set_option maxHeartbeats 8000000
set_option maxRecDepth 100000
set_option linter.unusedSimpArgs false
set_option linter.unusedVariables false
namespace Go.Pv.Geo
open Cov
theorem c_covers (l : List Pt) (hl : l.length ≤ 9223372036854775807) : Contract Try.prog 5 [.sl (l.map encPt)] (.ret (.bool true)) := by
  by_cases h24 : l.length ≤ 24
  rotate_left
  · refine contract_of mix Try.func5 rfl rfl (by rw [Try.ntmps5]; exact Nat.le_of_ble_eq_true rfl) ?_; rw [Try.results5, Try.ntmps5]; simp only [argsE, Nat.reduceAdd]
    repeat' first
           | (with_reducible apply go_op)
           | (with_reducible apply go_next)
           | ((with_reducible (show evOp _ _ _ _ _ _)); first
             | ((with_reducible (show evOp _ (.move _) _ _ _ _)) ; first | ((with_reducible apply go_mv_bool); rfl; rfl) | ((with_reducible apply go_mv_sl); rfl; rfl))
             | ((with_reducible apply go_as))
             | (((with_reducible apply go_cmp); rfl; rfl; rfl; rfl))
             | ((with_reducible (show evOp _ (.call _) _ _ _ _)) ; first | ((with_reducible apply go_len); rfl; rfl) | ((with_reducible apply go_fn_bool); rfl; (exact c_awake); rfl))
             | (((with_reducible apply go_not); rfl; rfl)))
           | ((with_reducible (show evOps _ _ _ _ _ _)); first
             | (with_reducible apply go_nil))
           | ((with_reducible (show evG _ _ _ _ _)); first
             | (with_reducible apply go_seq)
             | (with_reducible apply go_region)
             | ((with_reducible apply go_cond_f); rfl; rfl)
             | (((with_reducible apply go_cond); rfl) <;> (intro h; simp only [h]; try simp only [decide_eq_true_eq, decide_eq_false_iff_not, Bool.not_eq_true', Bool.not_eq_false', Bool.not_true, Bool.not_false] at h; try exact absurd trivial h))
             | (with_reducible apply go_ret)
             | (with_reducible apply go_skipc))
           | (with_reducible apply go_kseq)
           | (with_reducible apply go_kseq_ret)
           | ((with_reducible apply end_bool); rfl)
           | (with_reducible rfl)
    all_goals (exfalso; omega)
  have h1 := c_Triangulate l (.inl h24) (by omega)
  by_cases hz : patchE l = 0
  rotate_left
  · rw [show triX l = [] from if_neg hz] at h1
    generalize patchE l = e at *
    refine contract_of mix Try.func5 rfl rfl (by rw [Try.ntmps5]; exact Nat.le_of_ble_eq_true rfl) ?_; rw [Try.results5, Try.ntmps5]; simp only [argsE, Nat.reduceAdd]
    repeat' first
           | (with_reducible apply go_op)
           | (with_reducible apply go_next)
           | ((with_reducible (show evOp _ _ _ _ _ _)); first
             | ((with_reducible (show evOp _ (.move _) _ _ _ _)) ; first | ((with_reducible apply go_mv_int); rfl; rfl) | ((with_reducible apply go_mv_bool); rfl; rfl) | ((with_reducible apply go_mv_sl); rfl; rfl) | ((with_reducible apply go_mv_os); rfl; rfl) | ((with_reducible apply go_mv_tup); rfl; rfl))
             | ((with_reducible apply go_as))
             | (((with_reducible apply go_cmp); rfl; rfl; rfl; rfl))
             | ((with_reducible (show evOp _ (.call _) _ _ _ _)) ; first | ((with_reducible apply go_len); rfl; rfl) | ((with_reducible apply go_len_own); rfl; rfl; rfl) | ((with_reducible apply go_fn_bool); rfl; (exact c_awake); rfl) | ((with_reducible apply go_fn_fr2); rfl; (exact h1); (exact scalTri); rfl; rfl))
             | (((with_reducible apply go_not); rfl; rfl))
             | (((with_reducible apply go_extract); rfl; rfl)))
           | ((with_reducible (show evOps _ _ _ _ _ _)); first
             | (with_reducible apply go_nil))
           | ((with_reducible (show evG _ _ _ _ _)); first
             | (with_reducible apply go_seq)
             | (with_reducible apply go_region)
             | ((with_reducible apply go_cond_f); rfl; rfl)
             | (((with_reducible apply go_cond); rfl) <;> (intro h; simp only [h]; try simp only [decide_eq_true_eq, decide_eq_false_iff_not, Bool.not_eq_true', Bool.not_eq_false', Bool.not_true, Bool.not_false] at h; try exact absurd trivial h))
             | (with_reducible apply go_ret)
             | (with_reducible apply go_skipc))
           | (with_reducible apply go_kseq)
           | (with_reducible apply go_kseq_ret)
           | ((with_reducible apply end_bool); rfl)
           | (with_reducible rfl)
    all_goals first
      | (exfalso; omega)
      | rfl
      | (simp; done)
      | trace_state
  have h2 := c_Hull l (by omega)
  obtain ⟨h3, hH, hT, hS, hN⟩ := tri_all h24 hz
  obtain ⟨hc, hn, hf⟩ := patch_ok hz
  obtain ⟨-, hok⟩ := chk_ok hc
  have hTl := triX_len h24
  have hll := hullR_len hok
  rw [show hullX l = hullR l from if_pos hc, hc] at h2
  rw [hz] at h1
  clear hz hc hn
  generalize triX l = T at *
  generalize hullR l = H at *
  have hcd : ∀ i j k, -8000000000000 ≤ crossE (cornerP H i) (cornerP H j) (cornerP H k) ∧ crossE (cornerP H i) (cornerP H j) (cornerP H k) ≤ 8000000000000 := fun i j k => crossE_bd (hok _ (hH.memC i)) (hok _ (hH.memC j)) (hok _ (hH.memC k))
  have hWb := S_bd (F := fH H) (fun i => hcd 0 i (i + 1))
  have hBb := S_bd (borI_bd l H)
  refine contract_of mix Try.func5 rfl rfl (by rw [Try.ntmps5]; exact Nat.le_of_ble_eq_true rfl) ?_; rw [Try.results5, Try.ntmps5]; simp only [argsE, Nat.reduceAdd]
  repeat' first
           | (with_reducible apply go_op)
           | (with_reducible apply go_next)
           | ((with_reducible (show evOp _ _ _ _ _ _)); first
             | ((with_reducible (show evOp _ (.move _) _ _ _ _)) ; first | ((with_reducible apply go_mv_int); rfl; rfl) | ((with_reducible apply go_mv_bool); rfl; rfl) | ((with_reducible apply go_mv_sl); rfl; rfl) | ((with_reducible apply go_mv_os); rfl; rfl) | ((with_reducible apply go_mv_tup); rfl; rfl))
             | ((with_reducible apply go_as))
             | (((with_reducible apply go_cmp); rfl; rfl; rfl; rfl))
             | ((with_reducible (show evOp _ (.call _) _ _ _ _)) ; first | ((with_reducible apply go_len); rfl; rfl) | ((with_reducible apply go_len_own); rfl; rfl; rfl) | ((with_reducible apply go_fn_bool); rfl; (exact c_awake); rfl) | ((with_reducible apply go_fn_fr2); rfl; (exact h1); (exact scalTri); rfl; rfl) | ((with_reducible apply go_fn_fr2); rfl; (exact h2); (exact scalPt); rfl; rfl))
             | (((with_reducible apply go_not); rfl; rfl))
             | (((with_reducible apply go_extract); rfl; rfl))
             | (((with_reducible apply go_pick); rfl; rfl; rfl)))
           | ((with_reducible (show evOps _ _ _ _ _ _)); first
             | (with_reducible apply go_nil)
             | ((with_reducible apply go_run); rfl; rfl))
           | ((with_reducible (show evG _ _ _ _ _)); first
             | (with_reducible apply go_seq)
             | (with_reducible apply go_region)
             | ((with_reducible apply go_cond_f); rfl; rfl)
             | (((with_reducible apply go_cond); rfl) <;> (intro h; simp only [h]; try simp only [decide_eq_true_eq, decide_eq_false_iff_not, Bool.not_eq_true', Bool.not_eq_false', Bool.not_true, Bool.not_false] at h; try exact absurd trivial h))
             | (with_reducible apply go_ret)
             | (with_reducible apply go_skipc)
             | (with_reducible apply go_block))
           | (with_reducible apply go_kseq)
           | (with_reducible apply go_kseq_ret)
           | ((with_reducible apply end_bool); rfl)
           | (with_reducible rfl)
  all_goals try (exfalso; omega)
  refine go_count H.length (fun i => ⟨[(9, .int .i64 i), (8, .int .i64 0), (7, .int .i64 (S i (fH H))), (5, .os 1 0 H.length), (3, .os 0 0 T.length), (0, .sl (l.map encPt))], [(0, ⟨3, true, T.map encTri⟩), (1, ⟨2, true, H.map encPt⟩)], 32, 209⟩) (fun i => True)
    (entails_eq (nx := 32) (k := 0) (ns := []) (ks := [9, 8, 7, 5, 3, 0]) [(224, 0), (512, 1)] rfl (by simp) (by kernel_rfl)) trivial ?_
  intro i hi _
  by_cases hlt : i < H.length
  · have hst := S_step (fH H) i
    have hb1 := hWb i
    have e0 : ∀ h : 0 + 0 < H.length, H[0 + 0]'h = cornerP H 0 := fun h => (cornerP_lt h).symm
    have hc0 : ∀ h : i < H.length, H[i]'h = cornerP H i := fun h => (cornerP_lt h).symm
    have hc1 : ∀ h : 0 + (i + 1) % H.length < H.length, H[0 + (i + 1) % H.length]'h = cornerP H (i + 1) := fun h => by rw [cornerP_get (by omega) (i + 1)]; congr 1; omega
    have x1 := c_rcross (cornerP H 0) (cornerP H i) (cornerP H (i + 1)) (hok _ (hH.memC 0)) (hok _ (hH.memC i)) (hok _ (hH.memC (i + 1)))
    have hb2 := hcd 0 i (i + 1)
    have e1 : ((i : Int) + 1) % (H.length : Int) = (((i + 1) % H.length : Nat) : Int) := by simp
    have m1 := Nat.mod_lt (i + 1) (show 0 < H.length by omega)
    rw [show fH H i = crossE (cornerP H 0) (cornerP H i) (cornerP H (i + 1)) from rfl] at hst
    generalize (i + 1) % H.length = j1 at *
    generalize S i (fH H) = s at *
    generalize crossE (cornerP H 0) (cornerP H i) (cornerP H (i + 1)) = cr at *
    repeat' first
           | ((with_reducible apply (go_index_oq (i := 0))); rfl; rfl; rfl; omega; rfl; rfl; (exact ⟨by omega, by omega⟩); (intro hlt))
           | ((with_reducible apply (go_index_oq (i := j1))); rfl; rfl; rfl; omega; rfl; rfl; (exact ⟨by omega, by omega⟩); (intro hlt))
           | (with_reducible apply go_op)
           | (with_reducible apply go_next)
           | ((with_reducible (show evOp _ _ _ _ _ _)); first
             | ((with_reducible (show evOp _ (.move _) _ _ _ _)) ; first | ((with_reducible apply go_mv_int); rfl; rfl) | ((with_reducible apply go_mv_os); rfl; rfl))
             | ((with_reducible apply go_as))
             | (((with_reducible apply go_load_om); rfl; rfl; rfl; rfl; rotate_left; assumption))
             | (((with_reducible apply go_index_om); rfl; rfl; rfl; (with_reducible rfl); rfl; rfl; omega; (intro hlt)))
             | ((with_reducible (show evOp _ (.binOp _ _ _ _ _) _ _ _ _)) ; first | ((with_reducible apply go_cmp); rfl; rfl; rfl; rfl) | ((with_reducible apply go_add); rfl; rfl; rfl; omega) | ((with_reducible apply go_rem_pos); rfl; rfl; rfl; omega))
             | (((with_reducible apply go_len_own); rfl; rfl; rfl)))
           | ((with_reducible (show evOps _ _ _ _ _ _)); first
             | (with_reducible apply go_nil)
             | (with_reducible apply go_take))
           | ((with_reducible (show evG _ _ _ _ _)); first
             | (with_reducible apply go_seq)
             | (with_reducible apply go_region)
             | (((with_reducible apply go_cond); rfl) <;> (intro h; simp only [h]; try simp only [decide_eq_true_eq, decide_eq_false_iff_not, Bool.not_eq_true', Bool.not_eq_false', Bool.not_true, Bool.not_false] at h; try exact absurd trivial h))
             | ((with_reducible apply (go_drawM 18)); decide +kernel; rfl)
             | (with_reducible apply go_skipc)
             | (with_reducible apply go_block)
             | (with_reducible apply go_exit))
           | (with_reducible apply go_kseq)
           | (with_reducible apply go_kblock_exit)
           | (with_reducible apply go_kseq_exit)
    all_goals try (exfalso; omega)
    simp only [e0, hc0, hc1]
    repeat' first
           | (with_reducible apply go_op)
           | (with_reducible apply go_next)
           | ((with_reducible (show evOp _ _ _ _ _ _)); first
             | (((with_reducible apply go_mv_int); rfl; rfl))
             | ((with_reducible apply go_as))
             | (((with_reducible apply go_add); rfl; rfl; rfl; omega))
             | (((with_reducible apply go_fn_int); rfl; (exact x1); rfl)))
           | ((with_reducible (show evOps _ _ _ _ _ _)); first
             | (with_reducible apply go_nil)
             | (with_reducible apply go_take)
             | (with_reducible apply go_take0)
             | (with_reducible apply go_drop)
             | (with_reducible apply go_drop0))
           | ((with_reducible (show evG _ _ _ _ _)); first
             | (with_reducible apply go_region))
           | (with_reducible apply go_kseq)
           | (with_reducible apply go_kblock)
           | (with_reducible apply go_kdrop)
    all_goals try (exfalso; omega)
    exact ⟨by omega, trivial, by rw [hst]; exact entails_eq (nx := 32) (k := 0) (ns := []) (ks := [9, 8, 7, 5, 3, 0]) [(0, 0), (1, 1)] rfl (by simp) (by kernel_rfl)⟩
  have e : i = H.length := by omega
  subst e
  clear hlt hi
  have hW := hWb H.length
  generalize S H.length (fH H) = W at *
  repeat' first
           | (with_reducible apply go_op)
           | (with_reducible apply go_next)
           | ((with_reducible (show evOp _ _ _ _ _ _)); first
             | ((with_reducible (show evOp _ (.move _) _ _ _ _)) ; first | ((with_reducible apply go_mv_int); rfl; rfl) | ((with_reducible apply go_mv_os); rfl; rfl))
             | ((with_reducible apply go_as))
             | (((with_reducible apply go_index_own); rfl; rfl; rfl; rfl; rfl; omega))
             | (((with_reducible apply go_cmp); rfl; rfl; rfl; rfl))
             | (((with_reducible apply go_len_own); rfl; rfl; rfl)))
           | ((with_reducible (show evOps _ _ _ _ _ _)); first
             | (with_reducible apply go_nil)
             | (with_reducible apply go_take))
           | ((with_reducible (show evG _ _ _ _ _)); first
             | (with_reducible apply go_seq)
             | (with_reducible apply go_region)
             | (((with_reducible apply go_cond); rfl) <;> (intro h; simp only [h]; try simp only [decide_eq_true_eq, decide_eq_false_iff_not, Bool.not_eq_true', Bool.not_eq_false', Bool.not_true, Bool.not_false] at h; try exact absurd trivial h))
             | ((with_reducible apply (go_drawM 18)); decide +kernel; rfl)
             | (with_reducible apply go_skipc)
             | (with_reducible apply go_block)
             | (with_reducible apply go_exit))
           | (with_reducible apply go_kseq)
           | (with_reducible apply go_kblock_exit)
           | (with_reducible apply go_kseq_exit)
  all_goals try (exfalso; omega)
  refine go_count l.length (fun k => ⟨[(10, .int .i64 k), (8, .int .i64 (S k (borI l H))), (7, .int .i64 W), (5, .os 1 0 H.length), (3, .os 0 0 T.length), (0, .sl (l.map encPt))], [(0, ⟨3, true, T.map encTri⟩), (1, ⟨2, true, H.map encPt⟩)], 32, 209⟩) (fun i => True)
    (entails_eq (nx := 32) (k := 0) (ns := []) (ks := [10, 8, 7, 5, 3, 0]) [(0, 0), (1, 1)] rfl (by simp) (by kernel_rfl)) trivial ?_
  intro k hk _
  by_cases hlk : k < l.length
  · have hst := S_step (borI l H) k
    have hb1 := hBb k
    have hop := hok _ (List.getElem_mem hlk)
    have hpt : ptL l k = l[k] := by unfold ptL; rw [List.getD_eq_getElem?_getD, List.getElem?_eq_getElem hlk]; rfl
    rw [show borI l H k = if onT H l[k] H.length = true then 1 else 0 by rw [← hpt]; rfl] at hst
    generalize S k (borI l H) = s at *
    repeat' first
           | (with_reducible apply go_op)
           | (with_reducible apply go_next)
           | ((with_reducible (show evOp _ _ _ _ _ _)); first
             | ((with_reducible (show evOp _ (.move _) _ _ _ _)) ; first | ((with_reducible apply go_mv_int); rfl; rfl) | ((with_reducible apply go_mv_bool); rfl; rfl) | ((with_reducible apply go_mv_sl); rfl; rfl))
             | ((with_reducible apply go_as))
             | (((with_reducible apply go_cmp); rfl; rfl; rfl; rfl))
             | (((with_reducible apply go_len); rfl; rfl)))
           | ((with_reducible (show evOps _ _ _ _ _ _)); first
             | (with_reducible apply go_nil))
           | ((with_reducible (show evG _ _ _ _ _)); first
             | (with_reducible apply go_seq)
             | (with_reducible apply go_region)
             | (((with_reducible apply go_cond); rfl) <;> (intro h; simp only [h]; try simp only [decide_eq_true_eq, decide_eq_false_iff_not, Bool.not_eq_true', Bool.not_eq_false', Bool.not_true, Bool.not_false] at h; try exact absurd trivial h))
             | (with_reducible apply go_skipc)
             | (with_reducible apply go_block)
             | (with_reducible apply go_exit))
           | (with_reducible apply go_kseq)
           | (with_reducible apply go_kblock_exit)
           | (with_reducible apply go_kseq_exit)
    all_goals try (exfalso; omega)
    refine go_count H.length (fun i => ⟨[(12, .int .i64 i), (11, .bool (onT H l[k] i)), (10, .int .i64 k), (8, .int .i64 s), (7, .int .i64 W), (5, .os 1 0 H.length), (3, .os 0 0 T.length), (0, .sl (l.map encPt))], [(0, ⟨3, true, T.map encTri⟩), (1, ⟨2, true, H.map encPt⟩)], 32, 209⟩) (fun i => True)
      (entails_eq (nx := 32) (k := 0) (ns := []) (ks := [12, 11, 10, 8, 7, 5, 3, 0]) [(0, 0), (1, 1)] rfl (by simp) (by kernel_rfl)) trivial ?_
    intro i hi _
    by_cases hlt : i < H.length
    · have hot := onT_step H l[k] i
      have hc0 : ∀ h : i < H.length, H[i]'h = cornerP H i := fun h => (cornerP_lt h).symm
      have hc1 : ∀ h : 0 + (i + 1) % H.length < H.length, H[0 + (i + 1) % H.length]'h = cornerP H (i + 1) := fun h => by rw [cornerP_get (by omega) (i + 1)]; congr 1; omega
      have x1 := c_rbetween (cornerP H i) (cornerP H (i + 1)) l[k] (hok _ (hH.memC i)) (hok _ (hH.memC (i + 1))) hop
      have e1 : ((i : Int) + 1) % (H.length : Int) = (((i + 1) % H.length : Nat) : Int) := by simp
      have m1 := Nat.mod_lt (i + 1) (show 0 < H.length by omega)
      generalize (i + 1) % H.length = j1 at *
      generalize onE (cornerP H i) (cornerP H (i + 1)) l[k] = ob at *
      generalize onT H l[k] i = bb at *
      cases bb
      · repeat' first
           | ((with_reducible apply (go_index_oq (i := j1))); rfl; rfl; rfl; omega; rfl; rfl; (exact ⟨by omega, by omega⟩); (intro hlt))
           | (with_reducible apply go_op)
           | (with_reducible apply go_next)
           | ((with_reducible (show evOp _ _ _ _ _ _)); first
             | ((with_reducible (show evOp _ (.move _) _ _ _ _)) ; first | ((with_reducible apply go_mv_int); rfl; rfl) | ((with_reducible apply go_mv_bool); rfl; rfl) | ((with_reducible apply go_mv_sl); rfl; rfl) | ((with_reducible apply go_mv_os); rfl; rfl))
             | ((with_reducible apply go_as))
             | ((with_reducible (show evOp _ (.load _ _) _ _ _ _)) ; first | ((with_reducible apply go_load_om); rfl; rfl; rfl; rfl; rotate_left; assumption) | ((with_reducible apply go_ld_ptr); rfl; rfl; rfl))
             | ((with_reducible (show evOp _ (.indexAddr _ _ _) _ _ _ _)) ; first | ((with_reducible apply go_index_nat); rfl; rfl; (with_reducible rfl); (intro; rfl); rfl; omega; (intro hlt)) | ((with_reducible apply go_index_om); rfl; rfl; rfl; (with_reducible rfl); rfl; rfl; omega; (intro hlt)))
             | ((with_reducible (show evOp _ (.binOp _ _ _ _ _) _ _ _ _)) ; first | ((with_reducible apply go_cmp); rfl; rfl; rfl; rfl) | ((with_reducible apply go_add); rfl; rfl; rfl; omega) | ((with_reducible apply go_rem_pos); rfl; rfl; rfl; omega))
             | (((with_reducible apply go_len_own); rfl; rfl; rfl)))
           | ((with_reducible (show evOps _ _ _ _ _ _)); first
             | (with_reducible apply go_nil)
             | ((with_reducible apply go_run); rfl; rfl)
             | (with_reducible apply go_take)
             | (with_reducible apply go_take0)
             | (with_reducible apply go_drop)
             | (with_reducible apply go_drop0))
           | ((with_reducible (show evG _ _ _ _ _)); first
             | (with_reducible apply go_seq)
             | (with_reducible apply go_region)
             | ((with_reducible apply go_cond_f); rfl; rfl)
             | (((with_reducible apply go_cond); rfl) <;> (intro h; simp only [h]; try simp only [decide_eq_true_eq, decide_eq_false_iff_not, Bool.not_eq_true', Bool.not_eq_false', Bool.not_true, Bool.not_false] at h; try exact absurd trivial h))
             | ((with_reducible apply (go_drawM 18)); decide +kernel; rfl)
             | (with_reducible apply go_skipc)
             | (with_reducible apply go_block)
             | (with_reducible apply go_exit))
           | (with_reducible apply go_kseq)
           | (with_reducible apply go_kblock)
           | (with_reducible apply go_kblock_exit)
           | (with_reducible apply go_kdrop)
           | (with_reducible apply go_kseq_exit)
        all_goals try (exfalso; omega)
        simp only [hc0, hc1]
        repeat' first
           | (with_reducible apply go_op)
           | (with_reducible apply go_next)
           | ((with_reducible (show evOp _ _ _ _ _ _)); first
             | ((with_reducible (show evOp _ (.move _) _ _ _ _)) ; first | ((with_reducible apply go_mv_int); rfl; rfl) | ((with_reducible apply go_mv_bool); rfl; rfl))
             | ((with_reducible apply go_as))
             | (((with_reducible apply go_add); rfl; rfl; rfl; omega))
             | (((with_reducible apply go_fn_bool); rfl; (exact x1); rfl))
             | (((with_reducible apply go_pick); rfl; rfl; rfl)))
           | ((with_reducible (show evOps _ _ _ _ _ _)); first
             | (with_reducible apply go_nil))
           | ((with_reducible (show evG _ _ _ _ _)); first
             | (with_reducible apply go_region))
           | (with_reducible apply go_kseq)
           | (with_reducible apply go_kblock)
        all_goals try (exfalso; omega)
        exact ⟨by omega, trivial, by rw [hot]; exact entails_eq (nx := 32) (k := 0) (ns := []) (ks := [12, 11, 10, 8, 7, 5, 3, 0]) [(0, 0), (1, 1)] rfl (by simp) (by kernel_rfl)⟩
      · repeat' first
           | (with_reducible apply go_op)
           | (with_reducible apply go_next)
           | ((with_reducible (show evOp _ _ _ _ _ _)); first
             | ((with_reducible (show evOp _ (.move _) _ _ _ _)) ; first | ((with_reducible apply go_mv_int); rfl; rfl) | ((with_reducible apply go_mv_bool); rfl; rfl) | ((with_reducible apply go_mv_os); rfl; rfl))
             | ((with_reducible apply go_as))
             | ((with_reducible (show evOp _ (.binOp _ _ _ _ _) _ _ _ _)) ; first | ((with_reducible apply go_cmp); rfl; rfl; rfl; rfl) | ((with_reducible apply go_add); rfl; rfl; rfl; omega))
             | (((with_reducible apply go_len_own); rfl; rfl; rfl))
             | (((with_reducible apply go_pick); rfl; rfl; rfl)))
           | ((with_reducible (show evOps _ _ _ _ _ _)); first
             | (with_reducible apply go_nil)
             | ((with_reducible apply go_pass); rfl; rfl; rfl)
             | (with_reducible apply go_take)
             | (with_reducible apply go_take0)
             | (with_reducible apply go_drop)
             | (with_reducible apply go_drop0))
           | ((with_reducible (show evG _ _ _ _ _)); first
             | (with_reducible apply go_seq)
             | (with_reducible apply go_region)
             | ((with_reducible apply go_cond_t); rfl; rfl)
             | (((with_reducible apply go_cond); rfl) <;> (intro h; simp only [h]; try simp only [decide_eq_true_eq, decide_eq_false_iff_not, Bool.not_eq_true', Bool.not_eq_false', Bool.not_true, Bool.not_false] at h; try exact absurd trivial h))
             | ((with_reducible apply (go_drawM 18)); decide +kernel; rfl)
             | (with_reducible apply go_skipc)
             | (with_reducible apply go_block)
             | (with_reducible apply go_exit))
           | (with_reducible apply go_kseq)
           | (with_reducible apply go_kblock)
           | (with_reducible apply go_kblock_exit)
           | (with_reducible apply go_kdrop)
           | (with_reducible apply go_kseq_exit)
        all_goals try (exfalso; omega)
        exact ⟨by omega, trivial, by rw [hot]; exact entails_eq (nx := 32) (k := 0) (ns := []) (ks := [12, 11, 10, 8, 7, 5, 3, 0]) [(0, 0), (1, 1)] rfl (by simp) (by kernel_rfl)⟩
    · have e : i = H.length := by omega
      subst e
      clear hlt hi
      generalize onT H l[k] H.length = bb at *
      cases bb
      · repeat' first
           | (with_reducible apply go_op)
           | (with_reducible apply go_next)
           | ((with_reducible (show evOp _ _ _ _ _ _)); first
             | ((with_reducible (show evOp _ (.move _) _ _ _ _)) ; first | ((with_reducible apply go_mv_int); rfl; rfl) | ((with_reducible apply go_mv_bool); rfl; rfl) | ((with_reducible apply go_mv_os); rfl; rfl))
             | ((with_reducible apply go_as))
             | (((with_reducible apply go_load_om); rfl; rfl; rfl; rfl; rotate_left; assumption))
             | ((with_reducible (show evOp _ (.indexAddr _ _ _) _ _ _ _)) ; first | ((with_reducible apply go_index_om); rfl; rfl; rfl; (with_reducible rfl); rfl; rfl; omega; (intro hlt)) | ((with_reducible apply go_index_own); rfl; rfl; rfl; rfl; rfl; omega))
             | ((with_reducible (show evOp _ (.binOp _ _ _ _ _) _ _ _ _)) ; first | ((with_reducible apply go_cmp); rfl; rfl; rfl; rfl) | ((with_reducible apply go_add); rfl; rfl; rfl; omega) | ((with_reducible apply go_rem_pos); rfl; rfl; rfl; omega))
             | (((with_reducible apply go_len_own); rfl; rfl; rfl)))
           | ((with_reducible (show evOps _ _ _ _ _ _)); first
             | (with_reducible apply go_nil)
             | ((with_reducible apply go_run); rfl; rfl)
             | (with_reducible apply go_take))
           | ((with_reducible (show evG _ _ _ _ _)); first
             | (with_reducible apply go_seq)
             | (with_reducible apply go_region)
             | ((with_reducible apply go_cond_f); rfl; rfl)
             | (((with_reducible apply go_cond); rfl) <;> (intro h; simp only [h]; try simp only [decide_eq_true_eq, decide_eq_false_iff_not, Bool.not_eq_true', Bool.not_eq_false', Bool.not_true, Bool.not_false] at h; try exact absurd trivial h))
             | ((with_reducible apply (go_drawM 18)); decide +kernel; rfl)
             | (with_reducible apply go_skipc)
             | (with_reducible apply go_block)
             | (with_reducible apply go_exit))
           | (with_reducible apply go_kseq)
           | (with_reducible apply go_kblock)
           | (with_reducible apply go_kblock_exit)
           | (with_reducible apply go_kseq_exit)
        all_goals try (exfalso; omega)
        exact ⟨by omega, trivial, by rw [hst, if_neg (by simp), Int.add_zero]; exact entails_eq (nx := 32) (k := 0) (ns := []) (ks := [10, 8, 7, 5, 3, 0]) [(0, 0), (1, 1)] rfl (by simp) (by kernel_rfl)⟩
      · repeat' first
           | (with_reducible apply go_op)
           | (with_reducible apply go_next)
           | ((with_reducible (show evOp _ _ _ _ _ _)); first
             | ((with_reducible (show evOp _ (.move _) _ _ _ _)) ; first | ((with_reducible apply go_mv_int); rfl; rfl) | ((with_reducible apply go_mv_bool); rfl; rfl) | ((with_reducible apply go_mv_os); rfl; rfl))
             | ((with_reducible apply go_as))
             | ((with_reducible (show evOp _ (.binOp _ _ _ _ _) _ _ _ _)) ; first | ((with_reducible apply go_cmp); rfl; rfl; rfl; rfl) | ((with_reducible apply go_add); rfl; rfl; rfl; omega))
             | (((with_reducible apply go_len_own); rfl; rfl; rfl))
             | (((with_reducible apply go_pick); rfl; rfl; rfl)))
           | ((with_reducible (show evOps _ _ _ _ _ _)); first
             | (with_reducible apply go_nil)
             | ((with_reducible apply go_pass); rfl; rfl; rfl)
             | (with_reducible apply go_take)
             | (with_reducible apply go_take0)
             | (with_reducible apply go_drop)
             | (with_reducible apply go_drop0))
           | ((with_reducible (show evG _ _ _ _ _)); first
             | (with_reducible apply go_seq)
             | (with_reducible apply go_region)
             | ((with_reducible apply go_cond_t); rfl; rfl)
             | (((with_reducible apply go_cond); rfl) <;> (intro h; simp only [h]; try simp only [decide_eq_true_eq, decide_eq_false_iff_not, Bool.not_eq_true', Bool.not_eq_false', Bool.not_true, Bool.not_false] at h; try exact absurd trivial h))
             | ((with_reducible apply (go_drawM 18)); decide +kernel; rfl)
             | (with_reducible apply go_skipc)
             | (with_reducible apply go_block)
             | (with_reducible apply go_exit))
           | (with_reducible apply go_kseq)
           | (with_reducible apply go_kblock)
           | (with_reducible apply go_kblock_exit)
           | (with_reducible apply go_kdrop)
           | (with_reducible apply go_kseq_exit)
        all_goals try (exfalso; omega)
        exact ⟨by omega, trivial, by rw [hst, if_pos rfl]; exact entails_eq (nx := 32) (k := 0) (ns := []) (ks := [10, 8, 7, 5, 3, 0]) [(0, 0), (1, 1)] rfl (by simp) (by kernel_rfl)⟩
  have e : k = l.length := by omega
  subst e
  clear hlk hk
  have hB := hBb l.length
  generalize S l.length (borI l H) = B at *
  repeat' first
           | (with_reducible apply go_op)
           | (with_reducible apply go_next)
           | ((with_reducible (show evOp _ _ _ _ _ _)); first
             | ((with_reducible (show evOp _ (.move _) _ _ _ _)) ; first | ((with_reducible apply go_mv_int); rfl; rfl) | ((with_reducible apply go_mv_bool); rfl; rfl) | ((with_reducible apply go_mv_sl); rfl; rfl))
             | ((with_reducible apply go_as))
             | (((with_reducible apply go_cmp); rfl; rfl; rfl; rfl))
             | (((with_reducible apply go_len); rfl; rfl)))
           | ((with_reducible (show evOps _ _ _ _ _ _)); first
             | (with_reducible apply go_nil))
           | ((with_reducible (show evG _ _ _ _ _)); first
             | (with_reducible apply go_seq)
             | (with_reducible apply go_region)
             | (((with_reducible apply go_cond); rfl) <;> (intro h; simp only [h]; try simp only [decide_eq_true_eq, decide_eq_false_iff_not, Bool.not_eq_true', Bool.not_eq_false', Bool.not_true, Bool.not_false] at h; try exact absurd trivial h))
             | (with_reducible apply go_skipc)
             | (with_reducible apply go_block)
             | (with_reducible apply go_exit))
           | (with_reducible apply go_kseq)
           | (with_reducible apply go_kblock_exit)
           | (with_reducible apply go_kseq_exit)
  all_goals try (exfalso; omega)
  refine go_count T.length (fun k => ⟨[(14, .int .i64 k), (13, .int .i64 (S k (gT l T))), (8, .int .i64 B), (7, .int .i64 W), (5, .os 1 0 H.length), (3, .os 0 0 T.length), (0, .sl (l.map encPt))], [(0, ⟨3, true, T.map encTri⟩), (1, ⟨2, true, H.map encPt⟩)], 32, 209⟩) (fun i => -(8000000000000 * (i : Int)) ≤ S i (gT l T) ∧ S i (gT l T) ≤ 8000000000000 * i)
    (entails_eq (nx := 32) (k := 0) (ns := []) (ks := [14, 13, 8, 7, 5, 3, 0]) [(0, 0), (1, 1)] rfl (by simp) (by kernel_rfl)) (by simp [S]) ?_
  intro k hk hI
  by_cases hlk : k < T.length
  · obtain ⟨a, b, c, hm, he, hcr, hdt⟩ := hT k hlk
    have hst := S_step (gT l T) k
    rw [gT_bd hok T hlk hm he] at hst
    rw [crT_get hm.1 hm.2.1 hm.2.2] at hcr
    have hpa : ptL l a = l[a]'hm.1 := by unfold ptL; rw [List.getD_eq_getElem?_getD, List.getElem?_eq_getElem hm.1]; rfl
    have hpb : ptL l b = l[b]'hm.2.1 := by unfold ptL; rw [List.getD_eq_getElem?_getD, List.getElem?_eq_getElem hm.2.1]; rfl
    have hpc : ptL l c = l[c]'hm.2.2 := by unfold ptL; rw [List.getD_eq_getElem?_getD, List.getElem?_eq_getElem hm.2.2]; rfl
    rw [hpa, hpb, hpc] at hdt
    have ma := List.getElem_mem hm.1
    have mb := List.getElem_mem hm.2.1
    have mc := List.getElem_mem hm.2.2
    have x1 := c_rorient _ _ _ (hok _ ma) (hok _ mb) (hok _ mc)
    have x2 := c_rcross _ _ _ (hok _ ma) (hok _ mb) (hok _ mc)
    have hb2 := crossE_bd (hok _ ma) (hok _ mb) (hok _ mc)
    have hsg := sign_gt hcr
    have ea : T[k].a = (a : Int) := by rw [he]
    have eb : T[k].b = (b : Int) := by rw [he]
    have ec : T[k].c = (c : Int) := by rw [he]
    have hng : ∀ p ∈ l, ¬ 0 < signE (detE l[a] l[b] l[c] p) * signE (crossE l[a] l[b] l[c]) := fun p hp => sign_ngt (hdt p hp) hcr
    have x3 : ∀ p ∈ l, Contract Try.prog 24 [.agg (encPt l[a]), .agg (encPt l[b]), .agg (encPt l[c]), .agg (encPt p)] (.ret (.int .i64 (signE (detE l[a] l[b] l[c] p) * signE (crossE l[a] l[b] l[c])))) := fun p hp => c_rInCircle _ _ _ p (hok _ ma) (hok _ mb) (hok _ mc) (hok _ hp) (near_l hf ma hp) (near_l hf mb hp) (near_l hf mc hp)
    generalize S k (gT l T) = s at *
    generalize signE (crossE l[a] l[b] l[c]) = sg at *
    generalize crossE l[a] l[b] l[c] = cr at *
    repeat' first
           | (with_reducible apply go_op)
           | (with_reducible apply go_next)
           | ((with_reducible (show evOp _ _ _ _ _ _)); first
             | ((with_reducible (show evOp _ (.move _) _ _ _ _)) ; first | ((with_reducible apply go_mv_int); rfl; rfl) | ((with_reducible apply go_mv_bool); rfl; rfl) | ((with_reducible apply go_mv_sl); rfl; rfl) | ((with_reducible apply go_mv_os); rfl; rfl))
             | ((with_reducible apply go_as))
             | ((with_reducible (show evOp _ (.load _ _) _ _ _ _)) ; first | ((with_reducible apply go_load_om); rfl; rfl; rfl; rfl; rotate_left; assumption) | ((with_reducible apply go_ld_ptr); rfl; rfl; rfl) | ((with_reducible apply go_ld_agg); rfl; rfl; rfl; rfl))
             | (((with_reducible apply go_fieldAddr_own); rfl; rfl; rfl))
             | ((with_reducible (show evOp _ (.indexAddr _ _ _) _ _ _ _)) ; first | ((with_reducible apply go_index_om); rfl; rfl; rfl; (with_reducible rfl); rfl; rfl; omega; (intro hlt)) | ((with_reducible apply go_index); rfl; rfl; (intro; rfl); rfl; omega; intro hlt))
             | ((with_reducible (show evOp _ (.binOp _ _ _ _ _) _ _ _ _)) ; first | ((with_reducible apply go_cmp); rfl; rfl; rfl; rfl) | ((with_reducible apply go_sub); rfl; rfl; rfl; omega) | ((with_reducible apply go_mul); rfl; rfl; rfl; omega))
             | ((with_reducible (show evOp _ (.call _) _ _ _ _)) ; first | ((with_reducible apply go_len); rfl; rfl) | ((with_reducible apply go_len_own); rfl; rfl; rfl) | ((with_reducible apply go_fn_bool); rfl; (exact c_within _ _ _); rfl))
             | (((with_reducible apply go_st_agg); rfl; rfl; rfl; rfl; rfl; rfl; rfl))
             | (((with_reducible apply go_not); rfl; rfl))
             | (((with_reducible apply go_pick); rfl; rfl; rfl))
             | (((with_reducible apply go_alloc); rfl; rfl; rfl)))
           | ((with_reducible (show evOps _ _ _ _ _ _)); first
             | (with_reducible apply go_nil)
             | ((with_reducible apply go_run); rfl; rfl)
             | ((with_reducible apply go_pass); rfl; rfl; rfl)
             | (((with_reducible apply go_guard); rfl) <;> (intro h; simp only [h, Bool.not_true, Bool.not_false]; (try with_reducible (refine ⟨rfl, ?_⟩)); try simp only [decide_eq_true_eq, decide_eq_false_iff_not, Bool.not_eq_true', Bool.not_eq_false', Bool.not_true, Bool.not_false] at h; try exact absurd trivial h))
             | (with_reducible apply go_take)
             | (with_reducible apply go_take0))
           | ((with_reducible (show evG _ _ _ _ _)); first
             | (with_reducible apply go_seq)
             | (with_reducible apply go_region)
             | ((with_reducible apply go_cond_t); rfl; rfl)
             | (((with_reducible apply go_cond); rfl) <;> (intro h; simp only [h]; try simp only [decide_eq_true_eq, decide_eq_false_iff_not, Bool.not_eq_true', Bool.not_eq_false', Bool.not_true, Bool.not_false] at h; try exact absurd trivial h))
             | ((with_reducible apply (go_drawL 27 [[8, 9, 10, 11, 12, 13, 14, 15, 16, 17, 18, 19, 20, 21, 22, 23], [16, 17, 18, 19, 20, 21, 22, 23], []])); decide +kernel; rfl)
             | (with_reducible apply go_ret)
             | (with_reducible apply go_skipc)
             | (with_reducible apply go_block)
             | (with_reducible apply go_exit))
           | (with_reducible apply go_klined)
           | (with_reducible apply go_line_drop)
           | (with_reducible apply go_line_drop0)
           | (with_reducible apply go_line)
           | (with_reducible apply go_line_nil)
           | (with_reducible apply go_kln)
           | (with_reducible apply go_again_nil)
           | ((with_reducible apply go_again); rfl; (intro id'))
           | ((with_reducible apply go_kagain); rfl)
           | (with_reducible apply go_kseq)
           | (with_reducible apply go_kseq_ret)
           | (with_reducible apply go_kblock_ret)
           | (with_reducible apply go_kblock_exit)
           | (with_reducible apply go_kseq_exit)
           | ((with_reducible apply end_bool); rfl)
    all_goals try (exfalso; omega)
    have ga : ∀ h : T[k].a.toNat < l.length, l[T[k].a.toNat]'h = l[a] := fun h => by congr 1; rw [ea]; rfl
    have gb : ∀ h : T[k].b.toNat < l.length, l[T[k].b.toNat]'h = l[b] := fun h => by congr 1; rw [eb]; rfl
    have gc : ∀ h : T[k].c.toNat < l.length, l[T[k].c.toNat]'h = l[c] := fun h => by congr 1; rw [ec]; rfl
    simp only [ga, gb, gc]
    repeat' first
           | (with_reducible apply go_op)
           | (with_reducible apply go_next)
           | ((with_reducible (show evOp _ _ _ _ _ _)); first
             | ((with_reducible (show evOp _ (.move _) _ _ _ _)) ; first | ((with_reducible apply go_mv_int); rfl; rfl) | ((with_reducible apply go_mv_bool); rfl; rfl))
             | ((with_reducible apply go_as))
             | (((with_reducible apply go_ld_agg); rfl; rfl; rfl; rfl))
             | ((with_reducible (show evOp _ (.binOp _ _ _ _ _) _ _ _ _)) ; first | ((with_reducible apply go_cmp); rfl; rfl; rfl; rfl) | ((with_reducible apply go_add); rfl; rfl; rfl; omega))
             | ((with_reducible (show evOp _ (.call _) _ _ _ _)) ; first | ((with_reducible apply go_fn_int); rfl; (exact x1); rfl) | ((with_reducible apply go_fn_int); rfl; (exact x2); rfl)))
           | ((with_reducible (show evOps _ _ _ _ _ _)); first
             | (with_reducible apply go_nil))
           | ((with_reducible (show evG _ _ _ _ _)); first
             | (with_reducible apply go_seq)
             | (with_reducible apply go_region)
             | (((with_reducible apply go_cond); rfl) <;> (intro h; simp only [h]; try simp only [decide_eq_true_eq, decide_eq_false_iff_not, Bool.not_eq_true', Bool.not_eq_false', Bool.not_true, Bool.not_false] at h; try exact absurd trivial h))
             | (with_reducible apply go_ret)
             | (with_reducible apply go_skipc)
             | (with_reducible apply go_block))
           | (with_reducible apply go_kseq)
           | (with_reducible apply go_kseq_ret)
           | (with_reducible apply go_kblock_ret)
           | ((with_reducible apply end_bool); rfl)
    all_goals try (exfalso; omega)
    refine go_count l.length (fun m => ⟨[(18, .int .i64 m), (17, .op 4 0 0), (16, .op 3 0 0), (15, .op 2 0 0), (14, .int .i64 k), (13, .int .i64 (s + cr)), (8, .int .i64 B), (7, .int .i64 W), (5, .os 1 0 H.length), (3, .os 0 0 T.length), (0, .sl (l.map encPt))], [(0, ⟨3, true, T.map encTri⟩), (1, ⟨2, true, H.map encPt⟩), (2, ⟨2, true, [encPt l[a]]⟩), (3, ⟨2, true, [encPt l[b]]⟩), (4, ⟨2, true, [encPt l[c]]⟩)], 32, 209⟩) (fun i => True)
      (entails_eq (nx := 32) (k := 0) (ns := []) (ks := [18, 17, 16, 15, 14, 13, 8, 7, 5, 3, 0]) [(0, 0), (1, 1), (2016, 2), (2048, 3), (2080, 4)] rfl (by simp) (by kernel_rfl)) trivial ?_
    intro m hm' _
    by_cases hlm : m < l.length
    · have y1 := x3 _ (List.getElem_mem hlm)
      have y2 := hng _ (List.getElem_mem hlm)
      generalize signE (detE l[a] l[b] l[c] l[m]) * sg = u at *
      repeat' first
           | (with_reducible apply go_op)
           | (with_reducible apply go_next)
           | ((with_reducible (show evOp _ _ _ _ _ _)); first
             | ((with_reducible (show evOp _ (.move _) _ _ _ _)) ; first | ((with_reducible apply go_mv_int); rfl; rfl) | ((with_reducible apply go_mv_bool); rfl; rfl) | ((with_reducible apply go_mv_sl); rfl; rfl))
             | ((with_reducible apply go_as))
             | ((with_reducible (show evOp _ (.load _ _) _ _ _ _)) ; first | ((with_reducible apply go_ld_ptr); rfl; rfl; rfl) | ((with_reducible apply go_ld_agg); rfl; rfl; rfl; rfl))
             | (((with_reducible apply go_index_nat); rfl; rfl; (with_reducible rfl); (intro; rfl); rfl; omega; (intro hlt)))
             | ((with_reducible (show evOp _ (.binOp _ _ _ _ _) _ _ _ _)) ; first | ((with_reducible apply go_cmp); rfl; rfl; rfl; rfl) | ((with_reducible apply go_add); rfl; rfl; rfl; omega))
             | ((with_reducible (show evOp _ (.call _) _ _ _ _)) ; first | ((with_reducible apply go_len); rfl; rfl) | ((with_reducible apply go_fn_int); rfl; (exact y1); rfl)))
           | ((with_reducible (show evOps _ _ _ _ _ _)); first
             | (with_reducible apply go_nil)
             | ((with_reducible apply go_pre); rfl)
             | (with_reducible apply go_pre_nil)
             | ((with_reducible apply go_suf); rfl)
             | (with_reducible apply go_suf_nil))
           | ((with_reducible (show evG _ _ _ _ _)); first
             | (with_reducible apply go_seq)
             | (with_reducible apply go_region)
             | (((with_reducible apply go_cond); rfl) <;> (intro h; simp only [h]; try simp only [decide_eq_true_eq, decide_eq_false_iff_not, Bool.not_eq_true', Bool.not_eq_false', Bool.not_true, Bool.not_false] at h; try exact absurd trivial h))
             | ((with_reducible apply go_order); kernel_rfl; rfl)
             | (with_reducible apply go_ret)
             | (with_reducible apply go_skipc)
             | (with_reducible apply go_block)
             | (with_reducible apply go_exit))
           | (with_reducible apply go_kseq)
           | (with_reducible apply go_ksuf)
           | (with_reducible apply go_kseq_ret)
           | (with_reducible apply go_kblock)
           | (with_reducible apply go_kblock_ret)
           | (with_reducible apply go_kblock_exit)
           | (with_reducible apply go_kseq_exit)
           | ((with_reducible apply end_bool); rfl)
      all_goals try (exfalso; omega)
      exact ⟨by omega, trivial, entails_eq (nx := 32) (k := 0) (ns := []) (ks := [18, 17, 16, 15, 14, 13, 8, 7, 5, 3, 0]) [(0, 0), (1, 1), (2, 2), (3, 3), (4, 4)] rfl (by simp) (by kernel_rfl)⟩
    · repeat' first
           | (with_reducible apply go_op)
           | (with_reducible apply go_next)
           | ((with_reducible (show evOp _ _ _ _ _ _)); first
             | ((with_reducible (show evOp _ (.move _) _ _ _ _)) ; first | ((with_reducible apply go_mv_int); rfl; rfl) | ((with_reducible apply go_mv_sl); rfl; rfl))
             | ((with_reducible apply go_as))
             | ((with_reducible (show evOp _ (.load _ _) _ _ _ _)) ; first | ((with_reducible apply go_ld_ptr); rfl; rfl; rfl) | ((with_reducible apply go_ld_agg); rfl; rfl; rfl; rfl))
             | (((with_reducible apply go_index_nat); rfl; rfl; (with_reducible rfl); (intro; rfl); rfl; omega; (intro hlt)))
             | ((with_reducible (show evOp _ (.binOp _ _ _ _ _) _ _ _ _)) ; first | ((with_reducible apply go_cmp); rfl; rfl; rfl; rfl) | ((with_reducible apply go_add); rfl; rfl; rfl; omega))
             | (((with_reducible apply go_len); rfl; rfl)))
           | ((with_reducible (show evOps _ _ _ _ _ _)); first
             | (with_reducible apply go_nil)
             | ((with_reducible apply go_pre); rfl))
           | ((with_reducible (show evG _ _ _ _ _)); first
             | (with_reducible apply go_seq)
             | (with_reducible apply go_region)
             | (((with_reducible apply go_cond); rfl) <;> (intro h; simp only [h]; try simp only [decide_eq_true_eq, decide_eq_false_iff_not, Bool.not_eq_true', Bool.not_eq_false', Bool.not_true, Bool.not_false] at h; try exact absurd trivial h))
             | ((with_reducible apply go_order); kernel_rfl; rfl)
             | (with_reducible apply go_skipc)
             | (with_reducible apply go_block)
             | (with_reducible apply go_exit))
           | (with_reducible apply go_kseq)
           | (with_reducible apply go_kblock)
           | (with_reducible apply go_kblock_exit)
           | (with_reducible apply go_kseq_exit)
      all_goals try (exfalso; omega)
      exact ⟨by omega, by rw [hst]; omega, by rw [hst]; exact entails_eq (nx := 32) (k := 0) (ns := []) (ks := [14, 13, 8, 7, 5, 3, 0]) [(0, 0), (1, 1)] rfl (by simp) (by kernel_rfl)⟩
  · have e : k = T.length := by omega
    subst e
    rw [hS]
    repeat' first
           | (with_reducible apply go_op)
           | (with_reducible apply go_next)
           | ((with_reducible (show evOp _ _ _ _ _ _)); first
             | ((with_reducible (show evOp _ (.move _) _ _ _ _)) ; first | ((with_reducible apply go_mv_int); rfl; rfl) | ((with_reducible apply go_mv_bool); rfl; rfl) | ((with_reducible apply go_mv_sl); rfl; rfl) | ((with_reducible apply go_mv_os); rfl; rfl))
             | ((with_reducible apply go_as))
             | (((with_reducible apply go_load_om); rfl; rfl; rfl; rfl; rotate_left; assumption))
             | (((with_reducible apply go_fieldAddr_own); rfl; rfl; rfl))
             | (((with_reducible apply go_index_om); rfl; rfl; rfl; (with_reducible rfl); rfl; rfl; omega; (intro hlt)))
             | ((with_reducible (show evOp _ (.binOp _ _ _ _ _) _ _ _ _)) ; first | ((with_reducible apply go_cmp); rfl; rfl; rfl; rfl) | ((with_reducible apply go_sub); rfl; rfl; rfl; omega) | ((with_reducible apply go_mul); rfl; rfl; rfl; omega))
             | ((with_reducible (show evOp _ (.call _) _ _ _ _)) ; first | ((with_reducible apply go_len); rfl; rfl) | ((with_reducible apply go_len_own); rfl; rfl; rfl))
             | (((with_reducible apply go_pick); rfl; rfl; rfl)))
           | ((with_reducible (show evOps _ _ _ _ _ _)); first
             | (with_reducible apply go_nil)
             | ((with_reducible apply go_run); rfl; rfl)
             | (((with_reducible apply go_guard); rfl) <;> (intro h; simp only [h, Bool.not_true, Bool.not_false]; (try with_reducible (refine ⟨rfl, ?_⟩)); try simp only [decide_eq_true_eq, decide_eq_false_iff_not, Bool.not_eq_true', Bool.not_eq_false', Bool.not_true, Bool.not_false] at h; try exact absurd trivial h)))
           | ((with_reducible (show evG _ _ _ _ _)); first
             | (with_reducible apply go_seq)
             | (with_reducible apply go_region)
             | (((with_reducible apply go_cond); rfl) <;> (intro h; simp only [h]; try simp only [decide_eq_true_eq, decide_eq_false_iff_not, Bool.not_eq_true', Bool.not_eq_false', Bool.not_true, Bool.not_false] at h; try exact absurd trivial h))
             | (with_reducible apply go_ret)
             | (with_reducible apply go_skipc)
             | (with_reducible apply go_block)
             | (with_reducible apply go_exit))
           | (with_reducible apply go_kseq)
           | (with_reducible apply go_kblock_exit)
           | (with_reducible apply go_kseq_exit)
           | ((with_reducible apply end_bool); rfl)
    all_goals try (exfalso; omega)
    all_goals first
      | rfl
      | exact decide_eq_true hN
      | (simp; omega)
      | trace_state
end Go.Pv.Geo

open Go Go.Proofs Go.Pv
set_option maxHeartbeats 1000000
set_option maxRecDepth 100000
set_option linter.unusedVariables false
namespace Go.Pv.Geo
theorem own : ownKnob Try.prog.godebug = none := by kernel_rfl
theorem laidOut : laidOutB Try.prog = true := by kernel_rfl
theorem rInt : Reads Try.prog 3 I64 (fun n => [.int .i64 n]) := reads_i64 Try.underlying3 (by kernel_rfl)
theorem rPt : Reads Try.prog 23 (fun p : Pt => I64 p.x ∧ I64 p.y) encPt :=
  (reads_struct Try.underlying23 (by kernel_rfl) (readsF_cons (k := 1) rInt (by kernel_rfl) rfl (readsF_cons (k := 1) rInt (by kernel_rfl) rfl readsF_nil))).map
    (fun x => ⟨x.1, x.2.1⟩) (fun _ _ => rfl) (fun _ h => ⟨h.1, h.2.1⟩) fun _ _ => by kernel_rfl
theorem rPts : Reads Try.prog 31 (fun l : List Pt => l.length ≤ maxLen ∧ ∀ a ∈ l, I64 a.x ∧ I64 a.y) (fun l => [.sl (l.map encPt)]) := reads_slice Try.underlying31 rPt (k := 2) (by kernel_rfl) (by decide) (by kernel_rfl)
end Go.Pv.Geo
namespace Go.Pv.Geo
end Go.Pv.Geo
namespace Go.Pv.Geo
end Go.Pv.Geo

open Go Go.Proofs Go.Pv
set_option maxHeartbeats 1000000
set_option maxRecDepth 100000
set_option linter.unusedVariables false
namespace Go.Pv.Geo
theorem aPts : ReadsA Try.prog [31] (fun x : List Pt => x.length ≤ maxLen) (fun x => [.sl (x.map encPt)]) :=
  (readsA_cons Try.underlying31 rPts (g := fun l => .sl (l.map encPt)) (.inl ⟨rfl, fun _ => rfl⟩) readsA_nil).map (fun x => x.1) (fun _ _ => rfl) (fun _ h => h.1.1)
end Go.Pv.Geo
namespace Go.Pv.Geo
end Go.Pv.Geo

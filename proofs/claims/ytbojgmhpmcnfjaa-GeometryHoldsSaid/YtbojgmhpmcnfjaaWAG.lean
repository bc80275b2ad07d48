import Derived.Test.YtbojgmhpmcnfjaaProg
import Derived.Test.YtbojgmhpmcnfjaaWAF
import Derived.Test.YtbojgmhpmcnfjaaWAD
import Derived.KernelRfl
import Derived.Test.YtbojgmhpmcnfjaaWAE
/- Part of the proofs over Ytbojgmhpmcnfjaa: JH, JI, JK, H7, H8, H9, JM. -/
set_option linter.unusedVariables false
set_option linter.unusedSimpArgs false
set_option linter.unnecessarySimpa false
open Go Go.Proofs Go.Pv
set_option maxHeartbeats 8000000
set_option maxRecDepth 100000
set_option linter.unusedSimpArgs false
set_option linter.unusedVariables false
namespace Go.Pv.Geo
theorem c_Clone (l : List Pt) (hl : l.length ≤ 1000000000) : Contract Try.prog 107 [.sl (l.map encPt)] (.ret (.fr 2 (l.map encPt))) := by
  by_cases h0 : 0 < l.length
  · refine contract_of mix Try.func107 rfl rfl (by rw [Try.ntmps107]; exact Nat.le_of_ble_eq_true rfl) ?_; rw [Try.results107, Try.ntmps107]; simp only [argsE, Nat.reduceAdd]
    repeat' first
           | (with_reducible apply go_op)
           | (with_reducible apply go_next)
           | ((with_reducible (show evOp _ _ _ _ _ _)); first
             | ((with_reducible (show evOp _ (.move _) _ _ _ _)) ; first | ((with_reducible apply go_mv_sl); rfl; rfl) | ((with_reducible apply go_mv_nilsl); rfl; rfl))
             | ((with_reducible apply go_as)))
           | ((with_reducible (show evOps _ _ _ _ _ _)); first
             | (with_reducible apply go_nil))
           | ((with_reducible (show evG _ _ _ _ _)); first
             | (with_reducible apply go_seq)
             | (with_reducible apply go_region))
           | (with_reducible apply go_kseq)
    refine go_nileq_sl (f := encPt) rfl h0 rfl ?_
    repeat' first
           | (with_reducible apply go_op)
           | (with_reducible apply go_next)
           | ((with_reducible (show evOp _ _ _ _ _ _)); first
             | (((with_reducible apply go_mv_sl); rfl; rfl))
             | (((with_reducible apply go_bs0); rfl)))
           | ((with_reducible (show evOps _ _ _ _ _ _)); first
             | (with_reducible apply go_nil))
           | ((with_reducible (show evG _ _ _ _ _)); first
             | (with_reducible apply go_seq)
             | (with_reducible apply go_region)
             | ((with_reducible apply go_cond_f); rfl; rfl)
             | (with_reducible apply go_skipc))
           | (with_reducible apply go_kseq)
    refine go_app_sl (f := encPt) scalPt rfl rfl rfl (fun _ => rfl) (by kernel_rfl) (by kernel_rfl) hl rfl ?_
    repeat' first
           | (with_reducible apply go_op)
           | (with_reducible apply go_next)
           | ((with_reducible (show evOp _ _ _ _ _ _)); first
             | (((with_reducible apply go_mv_os); rfl; rfl))
             | ((with_reducible apply go_as)))
           | ((with_reducible (show evOps _ _ _ _ _ _)); first
             | (with_reducible apply go_nil))
           | ((with_reducible (show evG _ _ _ _ _)); first
             | (with_reducible apply go_ret))
           | (with_reducible apply go_kseq)
    exact end_frn rfl rfl rfl rfl
  · have hnil : l = [] := List.eq_nil_of_length_eq_zero (by omega)
    subst hnil
    refine contract_of mix Try.func107 rfl rfl (by rw [Try.ntmps107]; exact Nat.le_of_ble_eq_true rfl) ?_; rw [Try.results107, Try.ntmps107]; simp only [argsE, Nat.reduceAdd]
    repeat' first
           | (with_reducible apply go_op)
           | (with_reducible apply go_next)
           | ((with_reducible (show evOp _ _ _ _ _ _)); first
             | ((with_reducible (show evOp _ (.move _) _ _ _ _)) ; first | ((with_reducible apply go_mv_sl); rfl; rfl) | ((with_reducible apply go_mv_nilsl); rfl; rfl))
             | ((with_reducible apply go_as)))
           | ((with_reducible (show evOps _ _ _ _ _ _)); first
             | (with_reducible apply go_nil))
           | ((with_reducible (show evG _ _ _ _ _)); first
             | (with_reducible apply go_seq)
             | (with_reducible apply go_region))
           | (with_reducible apply go_kseq)
    refine go_nilcmp (bs := [true, false]) ?_ rfl ?_ rfl rfl ?_
    · simp only [op0]; rfl
    · rfl
    · intro b hb
      simp only [List.mem_cons, List.not_mem_nil, or_false] at hb
      rcases hb with rfl | rfl
      · repeat' first
           | (with_reducible apply go_op)
           | (with_reducible apply go_next)
           | ((with_reducible (show evOp _ _ _ _ _ _)); first
             | (((with_reducible apply go_mv_nilsl); rfl; rfl))
             | ((with_reducible apply go_as)))
           | ((with_reducible (show evOps _ _ _ _ _ _)); first
             | (with_reducible apply go_nil))
           | ((with_reducible (show evG _ _ _ _ _)); first
             | (with_reducible apply go_seq)
             | (with_reducible apply go_region)
             | ((with_reducible apply go_cond_t); rfl; rfl)
             | (with_reducible apply go_ret))
           | (with_reducible apply go_kseq)
           | (with_reducible apply go_kseq_ret)
        exact finK_ret (fin_nil1 rfl)
      · repeat' first
           | (with_reducible apply go_op)
           | (with_reducible apply go_next)
           | ((with_reducible (show evOp _ _ _ _ _ _)); first
             | (((with_reducible apply go_mv_sl); rfl; rfl))
             | (((with_reducible apply go_bs0); rfl)))
           | ((with_reducible (show evOps _ _ _ _ _ _)); first
             | (with_reducible apply go_nil))
           | ((with_reducible (show evG _ _ _ _ _)); first
             | (with_reducible apply go_seq)
             | (with_reducible apply go_region)
             | ((with_reducible apply go_cond_f); rfl; rfl)
             | (with_reducible apply go_skipc))
           | (with_reducible apply go_kseq)
        refine go_app_sl (f := encPt) (l := []) scalPt rfl rfl rfl (fun _ => rfl) (by kernel_rfl) (by kernel_rfl) (by simp) rfl ?_
        repeat' first
           | (with_reducible apply go_op)
           | (with_reducible apply go_next)
           | ((with_reducible (show evOp _ _ _ _ _ _)); first
             | (((with_reducible apply go_mv_os); rfl; rfl))
             | ((with_reducible apply go_as)))
           | ((with_reducible (show evOps _ _ _ _ _ _)); first
             | (with_reducible apply go_nil))
           | ((with_reducible (show evG _ _ _ _ _)); first
             | (with_reducible apply go_ret))
           | (with_reducible apply go_kseq)
        exact end_frn rfl rfl rfl rfl
/-- The hull of places: their list put in order, each once. -/
def ordL (l : List Pt) : List Pt := compL (sortPts l)
def hullR (l : List Pt) : List Pt := if (ordL l).length < 2 then ordL l else hullL (ordL l)
theorem sort_len (l : List Pt) : (sortPts l).length = l.length := List.length_mergeSort l
theorem ord_len (l : List Pt) : (ordL l).length ≤ l.length := by
  have := compT_le (sortPts l) (sortPts l).length
  unfold ordL compL
  rw [sort_len] at this ⊢; exact this
theorem sort_mem (l : List Pt) (p : Pt) : p ∈ sortPts l ↔ p ∈ l := List.mem_mergeSort
theorem comp_mem {l : List Pt} {p : Pt} (h : p ∈ compL l) : p ∈ l := by
  unfold compL compT at h
  obtain ⟨i, hi, rfl⟩ := List.mem_map.1 h
  have := (List.mem_filter.1 hi).1
  have hi := List.mem_range.1 this
  rw [List.getD_eq_getElem?_getD, List.getElem?_eq_getElem hi]
  exact List.getElem_mem hi
theorem ord_sub {l : List Pt} {p : Pt} (h : p ∈ ordL l) : p ∈ l := (sort_mem l p).1 (comp_mem h)
theorem chain_snoc (l : List Pt) (p : Pt) : chain (l ++ [p]) = p :: popS p (chain l) := by simp [chain, List.foldl_append]
theorem chain_take {l : List Pt} {k : Nat} (hk : k < l.length) : chain (l.take (k + 1)) = l[k] :: popS l[k] (chain (l.take k)) := by
  rw [List.take_add_one, List.getElem?_eq_getElem hk]
  exact chain_snoc _ _
theorem popS_len (p : Pt) : ∀ t : List Pt, (popS p t).length ≤ t.length
  | [] => Nat.le_refl _
  | [a] => Nat.le_refl _
  | b :: a :: t => by
    rw [popS]; split
    · have := popS_len p (a :: t); simp only [List.length_cons] at *; omega
    · exact Nat.le_refl _
theorem chain_len (l : List Pt) (k : Nat) (hk : k ≤ l.length) : (chain (l.take k)).length ≤ k := by
  induction k with
  | zero => simp [chain]
  | succ k ih =>
    rw [chain_take (by omega)]
    have := popS_len l[k] (chain (l.take k))
    have := ih (by omega)
    simp only [List.length_cons]; omega
theorem chain_mem {l : List Pt} {k : Nat} (hk : k ≤ l.length) {p : Pt} (h : p ∈ chain (l.take k)) : p ∈ l := by
  induction k with
  | zero => simp [chain] at h
  | succ k ih =>
    rw [chain_take (by omega)] at h
    rcases List.mem_cons.1 h with rfl | h
    · exact List.getElem_mem _
    · exact ih (by omega) (pop_mem h)
def outO (d : List Pt) : Nat → List Pt
  | 0 => []
  | 1 => (chain d).tail.reverse
  | _ => hullL d
def outL (d : List Pt) : Nat → List Pt
  | 0 => d
  | 1 => d.reverse
  | _ => d
theorem out_step (d : List Pt) {i : Nat} (hi : i < 2) : outO d (i + 1) = outO d i ++ (chain (outL d i)).tail.reverse ∧ outL d (i + 1) = (outL d i).reverse := by
  match i, hi with
  | 0, _ => exact ⟨rfl, rfl⟩
  | 1, _ => exact ⟨rfl, (List.reverse_reverse d).symm⟩
theorem outL_len (d : List Pt) (i : Nat) : (outL d i).length = d.length := by
  unfold outL; split <;> simp
theorem outL_mem (d : List Pt) (i : Nat) {p : Pt} (h : p ∈ outL d i) : p ∈ d := by
  unfold outL at h; split at h
  · exact h
  · simpa using h
  · exact h
/-- The rows of the corners' list while places are popped: two corners below the top. -/
theorem rows_two {base t u : List Pt} {a b : Pt} {R : List Pt} (hR : R = base ++ (u ++ b :: a :: t).reverse) : ∃ h : base.length + t.length + 1 < R.length, R[base.length + t.length]'(by omega) = a ∧ R[base.length + t.length + 1] = b := by
  have e : R = (base ++ t.reverse) ++ (a :: b :: u.reverse) := by rw [hR]; simp
  subst e
  refine ⟨by simp only [List.length_append, List.length_reverse, List.length_cons]; omega, ?_, ?_⟩
  · rw [List.getElem_append_right (by simp)]; simp
  · rw [List.getElem_append_right (by simp)]; simp
theorem rows_take {base s u : List Pt} {R : List Pt} (hR : R = base ++ (u ++ s).reverse) : R.take (base.length + s.length) = base ++ s.reverse := by
  have e : R = (base ++ s.reverse) ++ u.reverse := by rw [hR]; simp
  rw [e, List.take_append_of_le_length (by simp), List.take_of_length_le (by simp)]
theorem c_hull (l : List Pt) (hl : l.length ≤ 1000000) (hok : ∀ p ∈ l, ptOK p = true) : Contract Try.prog 78 [.sl (l.map encPt)] (.ret (.fr 2 ((hullR l).map encPt))) := by
  have y1 := c_Clone l (by omega)
  have y2 : ContractM Try.prog 108 [.os 0 0 l.length, .clo (.func 109) [] []] ⟨2, true, l.map encPt⟩ (.tup []) ⟨2, true, (sortPts l).map encPt⟩ := c_SortFunc l (by omega)
  have hsl := sort_len l
  have y3 : ContractM Try.prog 110 [.os 0 0 l.length] ⟨2, true, (sortPts l).map encPt⟩ (.os 0 0 (ordL l).length) ⟨2, true, (ordL l).map encPt⟩ := by
    have := c_Compact (sortPts l) (by omega)
    rw [hsl] at this; exact this
  refine contract_of mix Try.func78 rfl rfl (by rw [Try.ntmps78]; exact Nat.le_of_ble_eq_true rfl) ?_; rw [Try.results78, Try.ntmps78]; simp only [argsE, Nat.reduceAdd]
  repeat' first
           | ((with_reducible (show evG _ _ (.region 2 _ _) _ _)); (with_reducible apply go_regionM))
           | ((with_reducible (show evG _ _ (.region 3 _ _) _ _)); (with_reducible apply go_regionM))
           | ((with_reducible apply (goM_call (b := 64))); rfl; rfl; (exact scalR_pts _); rfl; rfl; (exact y2); rfl; rfl)
           | ((with_reducible apply (goM_call (b := 64))); rfl; rfl; (exact scalR_pts _); rfl; rfl; (exact y3); rfl; rfl)
           | (with_reducible apply goM_op)
           | (with_reducible apply goM_next)
           | (with_reducible apply goM_nil)
           | (with_reducible apply go_op)
           | (with_reducible apply go_next)
           | ((with_reducible (show evOp _ _ _ _ _ _)); first
             | ((with_reducible (show evOp _ (.move _) _ _ _ _)) ; first | ((with_reducible apply go_mv_int); rfl; rfl) | ((with_reducible apply go_mv_sl); rfl; rfl) | ((with_reducible apply go_mv_os); rfl; rfl) | ((with_reducible apply go_mv_nilsl); rfl; rfl))
             | ((with_reducible apply go_as))
             | (((with_reducible apply go_cmp); rfl; rfl; rfl; rfl))
             | ((with_reducible (show evOp _ (.call _) _ _ _ _)) ; first | ((with_reducible apply go_len_own); rfl; rfl; rfl) | ((with_reducible apply go_fn_fr); rfl; (exact y1); (exact scalPt); rfl)))
           | ((with_reducible (show evOps _ _ _ _ _ _)); first
             | (with_reducible apply go_nil))
           | ((with_reducible (show evG _ _ _ _ _)); first
             | (with_reducible apply go_seq)
             | (with_reducible apply go_region)
             | (((with_reducible apply go_cond); rfl) <;> (intro h; simp only [h]; try simp only [decide_eq_true_eq, decide_eq_false_iff_not, Bool.not_eq_true', Bool.not_eq_false', Bool.not_true, Bool.not_false] at h; try exact absurd trivial h))
             | (with_reducible apply go_ret)
             | (with_reducible apply go_skipc)
             | (with_reducible apply go_block))
           | (with_reducible apply go_kseq)
           | (with_reducible apply go_kseq_ret)
  · exact end_frn rfl (by kernel_rfl) rfl (if_pos (by omega)).symm
  have hol := ord_len l
  have hres : hullR l = outO (ordL l) 2 := if_neg (by omega)
  rw [hres]
  have hokd : ∀ p ∈ ordL l, ptOK p = true := fun p hp => hok p (ord_sub hp)
  clear y1 y2 y3 hsl hres
  generalize ordL l = d at *
  refine go_count 2 (fun i => ⟨[(3, .os 1 0 (outO d i).length), (17, .int .i64 i), (0, .os 0 0 d.length)], [(1, ⟨2, true, (outO d i).map encPt⟩), (0, ⟨2, true, (outL d i).map encPt⟩)], 32, 68⟩) (fun i => (outO d i).length ≤ i * d.length)
    (entails_eq (nx := 32) (k := 2) (ns := [(3, 1)]) (ks := [17, 0]) [(64, 0)] rfl (by intro p hp; obtain rfl : p = (3, 1) := (by simpa using hp); kernel_rfl) (by kernel_rfl)) (by simp [outO]) ?_
  intro i hi hC
  by_cases hlt : i < 2
  rotate_left
  · have e : i = 2 := by omega
    subst e
    repeat' first
           | (with_reducible apply go_op)
           | (with_reducible apply go_next)
           | ((with_reducible (show evOp _ _ _ _ _ _)); first
             | (((with_reducible apply go_mv_os); rfl; rfl))
             | ((with_reducible apply go_as))
             | (((with_reducible apply go_cmp); rfl; rfl; rfl; rfl)))
           | ((with_reducible (show evOps _ _ _ _ _ _)); first
             | (with_reducible apply go_nil))
           | ((with_reducible (show evG _ _ _ _ _)); first
             | (with_reducible apply go_seq)
             | (with_reducible apply go_region)
             | ((with_reducible apply go_cond_f); rfl; rfl)
             | (with_reducible apply go_ret)
             | (with_reducible apply go_exit))
           | (with_reducible apply go_kseq)
           | (with_reducible apply go_kblock_exit)
           | (with_reducible apply go_kseq_exit)
    all_goals first
      | (exfalso; omega)
      | exact end_frn rfl rfl rfl rfl
      | trace_state
  have hs := out_step d hlt
  have hL := outL_len d i
  have hLm := fun p (hp : p ∈ outL d i) => hokd p (outL_mem d i hp)
  rw [hs.1, hs.2]
  clear hs
  generalize outO d i = base at *
  generalize outL d i = d' at *
  repeat' first
           | (with_reducible apply go_op)
           | (with_reducible apply go_next)
           | ((with_reducible (show evOp _ _ _ _ _ _)); first
             | ((with_reducible (show evOp _ (.move _) _ _ _ _)) ; first | ((with_reducible apply go_mv_int); rfl; rfl) | ((with_reducible apply go_mv_os); rfl; rfl))
             | ((with_reducible apply go_as))
             | (((with_reducible apply go_cmp); rfl; rfl; rfl; rfl))
             | (((with_reducible apply go_len_own); rfl; rfl; rfl)))
           | ((with_reducible (show evOps _ _ _ _ _ _)); first
             | (with_reducible apply go_nil))
           | ((with_reducible (show evG _ _ _ _ _)); first
             | (with_reducible apply go_seq)
             | (with_reducible apply go_region)
             | (((with_reducible apply go_cond); rfl) <;> (intro h; simp only [h]; try simp only [decide_eq_true_eq, decide_eq_false_iff_not, Bool.not_eq_true', Bool.not_eq_false', Bool.not_true, Bool.not_false] at h; try exact absurd trivial h))
             | (with_reducible apply go_ret)
             | (with_reducible apply go_skipc)
             | (with_reducible apply go_block)
             | (with_reducible apply go_exit))
           | (with_reducible apply go_kseq)
           | (with_reducible apply go_kblock_exit)
           | (with_reducible apply go_kseq_exit)
  all_goals try (exfalso; omega)
  refine go_count d.length (fun k => ⟨[(23, .int .i64 k), (22, .int .i64 d.length), (21, .os 0 0 d.length), (17, .int .i64 i), (4, .int .i64 base.length), (3, .os 1 0 (base.length + (chain (d'.take k)).length)), (0, .os 0 0 d.length)], [(1, ⟨2, true, (base ++ (chain (d'.take k)).reverse).map encPt⟩), (0, ⟨2, true, d'.map encPt⟩)], 32, 68⟩) (fun k => True)
    (entails_eq (nx := 32) (k := 0) (ns := []) (ks := [23, 22, 21, 17, 4, 3, 0]) [(1, 1), (0, 0)] rfl (by simp) (by rw [show base ++ (chain (d'.take 0)).reverse = base by simp [chain]]; kernel_rfl)) trivial ?_
  intro k hk _
  by_cases hkl : k < d.length
  rotate_left
  · have e : k = d.length := by omega
    have hcl := chain_len d' d'.length (Nat.le_refl _)
    rw [List.take_length] at hcl
    obtain ⟨x, t, hxt⟩ : ∃ x t, chain d' = x :: t := by
      have h1 := chain_take (l := d') (k := d'.length - 1) (by omega)
      rw [show d'.length - 1 + 1 = d'.length by omega, List.take_length] at h1
      exact ⟨_, _, h1⟩
    have yr : ContractM Try.prog 111 [.os 0 0 d.length] ⟨2, true, d'.map encPt⟩ (.tup []) ⟨2, true, d'.reverse.map encPt⟩ := by
      have := c_Reverse d' (by omega)
      rw [hL] at this; exact this
    rw [show d'.take k = d' by rw [List.take_of_length_le (by omega)], hxt]
    rw [hxt, List.length_cons] at hcl
    have htk : ((base ++ (x :: t).reverse).map encPt).take (base.length + t.length) = (base ++ t.reverse).map encPt := by
      rw [← List.map_take]
      congr 1
      exact rows_take (base := base) (s := t) (u := [x]) rfl
    simp only [List.length_cons, List.tail_cons]
    have hb2 : i * d.length ≤ 2 * d.length := Nat.mul_le_mul_right _ hi
    repeat' first
           | ((with_reducible (show evG _ _ (.region 18 _ _) _ _)); (with_reducible apply go_regionM))
           | ((with_reducible apply (goM_call (b := 0))); rfl; rfl; (exact scalR_pts _); rfl; rfl; (exact yr); rfl; rfl)
           | (with_reducible apply goM_op)
           | (with_reducible apply goM_next)
           | (with_reducible apply goM_nil)
           | (with_reducible apply go_op)
           | (with_reducible apply go_next)
           | ((with_reducible (show evOp _ _ _ _ _ _)); first
             | ((with_reducible (show evOp _ (.move _) _ _ _ _)) ; first | ((with_reducible apply go_mv_int); rfl; rfl) | ((with_reducible apply go_mv_os); rfl; rfl))
             | ((with_reducible apply go_as))
             | (((with_reducible apply go_load_om); rfl; rfl; rfl; rfl; rotate_left; assumption))
             | (((with_reducible apply go_index_om); rfl; rfl; rfl; (with_reducible rfl); rfl; rfl; omega; (intro hlt)))
             | ((with_reducible (show evOp _ (.binOp _ _ _ _ _) _ _ _ _)) ; first | ((with_reducible apply go_cmp); rfl; rfl; rfl; rfl) | ((with_reducible apply go_add); rfl; rfl; rfl; omega) | ((with_reducible apply go_sub); rfl; rfl; rfl; omega))
             | (((with_reducible apply go_len_own); rfl; rfl; rfl))
             | (((with_reducible apply go_st_agg); rfl; rfl; rfl; rfl; rfl; rfl; rfl))
             | (((with_reducible apply go_take_os); rfl; rfl; rfl; rfl; rfl; omega))
             | (((with_reducible apply go_alloc); rfl; rfl; rfl)))
           | ((with_reducible (show evOps _ _ _ _ _ _)); first
             | (with_reducible apply go_nil))
           | ((with_reducible (show evG _ _ _ _ _)); first
             | (with_reducible apply go_seq)
             | (with_reducible apply go_region)
             | (((with_reducible apply go_cond); rfl) <;> (intro h; simp only [h]; try simp only [decide_eq_true_eq, decide_eq_false_iff_not, Bool.not_eq_true', Bool.not_eq_false', Bool.not_true, Bool.not_false] at h; try exact absurd trivial h))
             | (with_reducible apply go_skipc)
             | (with_reducible apply go_block)
             | (with_reducible apply go_exit))
           | (with_reducible apply go_kseq)
           | (with_reducible apply go_kblock)
           | (with_reducible apply go_kblock_exit)
           | (with_reducible apply go_kseq_exit)
    all_goals try (exfalso; omega)
    refine ⟨by omega, by rw [List.length_append, List.length_reverse, Nat.add_mul, Nat.one_mul]; omega, ?_⟩
    refine Entails.trans (entails_take (b := 1) (base.length + t.length) rfl) ?_
    have en : (((base.length + (t.length + 1) : Nat) : Int) - 1).toNat = (base ++ t.reverse).length := by rw [List.length_append, List.length_reverse]; omega
    rw [en]
    show Entails ⟨_, updH 1 ⟨2, true, ((base ++ (x :: t).reverse).map encPt).take (base.length + t.length)⟩ _, _, _⟩ _
    rw [htk]
    exact entails_eq (nx := 32) (k := 0) (ns := []) (ks := [3, 17, 0]) [(1, 1), (0, 0)] rfl (by simp) (by kernel_rfl)
  have hlt' : k < d'.length := by omega
  have hct := chain_take hlt'
  have hcl := chain_len d' k (by omega)
  have hcm := fun p (hp : p ∈ chain (d'.take k)) => hLm p (chain_mem (by omega) hp)
  have hpo := hLm d'[k] (List.getElem_mem _)
  rw [hct]
  generalize chain (d'.take k) = s0 at *
  generalize hpk : d'[k] = p at *
  repeat' first
           | (with_reducible apply go_op)
           | (with_reducible apply go_next)
           | ((with_reducible (show evOp _ _ _ _ _ _)); first
             | (((with_reducible apply go_mv_os); rfl; rfl))
             | ((with_reducible apply go_as))
             | (((with_reducible apply go_load_om); rfl; rfl; rfl; rfl; rotate_left; assumption))
             | (((with_reducible apply go_index_om); rfl; rfl; rfl; (with_reducible rfl); rfl; rfl; omega; (intro hlt)))
             | ((with_reducible (show evOp _ (.binOp _ _ _ _ _) _ _ _ _)) ; first | ((with_reducible apply go_cmp); rfl; rfl; rfl; rfl) | ((with_reducible apply go_sub); rfl; rfl; rfl; omega))
             | (((with_reducible apply go_len_own); rfl; rfl; rfl))
             | (((with_reducible apply go_st_agg); rfl; rfl; rfl; rfl; rfl; rfl; rfl))
             | (((with_reducible apply go_take_os); rfl; rfl; rfl; rfl; rfl; omega))
             | (((with_reducible apply go_alloc); rfl; rfl; rfl)))
           | ((with_reducible (show evOps _ _ _ _ _ _)); first
             | (with_reducible apply go_nil))
           | ((with_reducible (show evG _ _ _ _ _)); first
             | (with_reducible apply go_seq)
             | (with_reducible apply go_region)
             | (((with_reducible apply go_cond); rfl) <;> (intro h; simp only [h]; try simp only [decide_eq_true_eq, decide_eq_false_iff_not, Bool.not_eq_true', Bool.not_eq_false', Bool.not_true, Bool.not_false] at h; try exact absurd trivial h))
             | (with_reducible apply go_skipc)
             | (with_reducible apply go_block)
             | (with_reducible apply go_exit))
           | (with_reducible apply go_kseq)
           | (with_reducible apply go_kblock_exit)
           | (with_reducible apply go_kseq_exit)
  all_goals try (exfalso; omega)
  have hb2 : i * d.length ≤ 2 * d.length := Nat.mul_le_mul_right _ hi
  refine go_while (σ := List Pt) List.length (fun s => ⟨[(6, .op 2 0 0), (23, .int .i64 k), (22, .int .i64 d.length), (21, .os 0 0 d.length), (17, .int .i64 i), (4, .int .i64 base.length), (3, .os 1 0 (base.length + s.length)), (0, .os 0 0 d.length)], [(1, ⟨2, true, (base ++ s0.reverse).map encPt⟩), (0, ⟨2, true, d'.map encPt⟩), (2, ⟨2, true, [encPt p]⟩)], 32, 68⟩) (fun s => ∃ u, s0 = u ++ s ∧ popS p s = popS p s0) s0
    (entails_eq (nx := 32) (k := 0) (ns := []) (ks := [6, 23, 22, 21, 17, 4, 3, 0]) [(1, 1), (0, 0), (128, 2)] rfl (by simp) (by rw [← hpk]; kernel_rfl)) ⟨[], rfl, rfl⟩ ?_
  rintro s ⟨u, hu, hpop⟩
  have hsl : s.length ≤ s0.length := by rw [hu, List.length_append]; omega
  have hR : base ++ s0.reverse = base ++ (u ++ s).reverse := by rw [hu]
  have hRt := rows_take (s := s) hR
  have hRl : (base ++ s0.reverse).length = base.length + s0.length := by simp
  have hend : popS p s0 = s → base ++ (p :: popS p s0).reverse = (base ++ s0.reverse).take (base.length + s.length) ++ [p] := fun e => by rw [hRt, e]; simp
  generalize base ++ s0.reverse = R at *
  match s, hu, hpop, hsl, hR, hRt, hend with
  | [], hu, hpop, hsl, hR, hRt, hend =>
    have e := hend (by rw [← hpop]; rfl)
    have hlen : (popS p s0).length = 0 := by rw [← hpop]; rfl
    simp only [List.length_nil] at *
    repeat' first
           | (with_reducible apply go_op)
           | (with_reducible apply go_next)
           | ((with_reducible (show evOp _ _ _ _ _ _)); first
             | ((with_reducible (show evOp _ (.move _) _ _ _ _)) ; first | ((with_reducible apply go_mv_int); rfl; rfl) | ((with_reducible apply go_mv_bool); rfl; rfl) | ((with_reducible apply go_mv_os); rfl; rfl))
             | (((with_reducible apply go_ld_agg); rfl; rfl; rfl; rfl))
             | (((with_reducible apply go_index_own); rfl; rfl; rfl; rfl; rfl; omega))
             | ((with_reducible (show evOp _ (.binOp _ _ _ _ _) _ _ _ _)) ; first | ((with_reducible apply go_cmp); rfl; rfl; rfl; rfl) | ((with_reducible apply go_add); rfl; rfl; rfl; omega) | ((with_reducible apply go_sub); rfl; rfl; rfl; omega))
             | (((with_reducible apply go_len_own); rfl; rfl; rfl))
             | (((with_reducible apply go_pick); rfl; rfl; rfl))
             | (((with_reducible apply go_bs1_agg); rfl; rfl; rfl; rfl; rfl; rfl)))
           | ((with_reducible (show evOps _ _ _ _ _ _)); first
             | (with_reducible apply go_nil)
             | ((with_reducible apply go_run); rfl; rfl)
             | ((with_reducible apply go_pass); rfl; rfl; rfl)
             | (((with_reducible apply go_guard); rfl) <;> (intro h; simp only [h, Bool.not_true, Bool.not_false]; (try with_reducible (refine ⟨rfl, ?_⟩)); try simp only [decide_eq_true_eq, decide_eq_false_iff_not, Bool.not_eq_true', Bool.not_eq_false', Bool.not_true, Bool.not_false] at h; try exact absurd trivial h))
             | ((with_reducible apply go_pre); rfl)
             | (with_reducible apply go_pre_nil)
             | ((with_reducible apply go_suf); rfl)
             | (with_reducible apply go_suf_nil))
           | ((with_reducible (show evG _ _ _ _ _)); first
             | (with_reducible apply go_seq)
             | (with_reducible apply go_region)
             | ((with_reducible apply go_cond_f); rfl; rfl)
             | ((with_reducible apply go_order); kernel_rfl; rfl)
             | (with_reducible apply go_exit))
           | (with_reducible apply go_kseq)
           | (with_reducible apply go_ksuf)
           | (with_reducible apply go_kblock_exit)
           | (with_reducible apply go_kseq_exit)
    all_goals try (exfalso; omega)
    refine go_app_mapt (f := encPt) (a := p) (l := R) (len := base.length + 0) scalPt rfl rfl rfl (by omega) rfl (by kernel_rfl) (by kernel_rfl) (by kernel_rfl) (by omega) rfl ?_
    rw [← e]
    repeat' first
           | (with_reducible apply go_op)
           | (with_reducible apply go_next)
           | ((with_reducible (show evOp _ _ _ _ _ _)); first
             | ((with_reducible (show evOp _ (.move _) _ _ _ _)) ; first | ((with_reducible apply go_mv_int); rfl; rfl) | ((with_reducible apply go_mv_os); rfl; rfl))
             | ((with_reducible apply go_as))
             | (((with_reducible apply go_add); rfl; rfl; rfl; omega)))
           | ((with_reducible (show evOps _ _ _ _ _ _)); first
             | (with_reducible apply go_nil))
           | ((with_reducible (show evG _ _ _ _ _)); first
             | (with_reducible apply go_region))
           | (with_reducible apply go_kseq)
           | (with_reducible apply go_kblock)
    refine ⟨by omega, trivial, ?_⟩
    rw [show base.length + (p :: popS p s0).length = (base.length + 0) + 1 by rw [List.length_cons, hlen]]
    exact entails_eq (nx := 32) (k := 0) (ns := []) (ks := [23, 22, 21, 17, 4, 3, 0]) [(1, 1), (0, 0)] rfl (by simp) (by kernel_rfl)
  | [a], hu, hpop, hsl, hR, hRt, hend =>
    have e := hend (by rw [← hpop]; rfl)
    have hlen : (popS p s0).length = 1 := by rw [← hpop]; rfl
    simp only [List.length_cons, List.length_nil] at *
    repeat' first
           | (with_reducible apply go_op)
           | (with_reducible apply go_next)
           | ((with_reducible (show evOp _ _ _ _ _ _)); first
             | ((with_reducible (show evOp _ (.move _) _ _ _ _)) ; first | ((with_reducible apply go_mv_int); rfl; rfl) | ((with_reducible apply go_mv_bool); rfl; rfl) | ((with_reducible apply go_mv_os); rfl; rfl))
             | (((with_reducible apply go_ld_agg); rfl; rfl; rfl; rfl))
             | (((with_reducible apply go_index_own); rfl; rfl; rfl; rfl; rfl; omega))
             | ((with_reducible (show evOp _ (.binOp _ _ _ _ _) _ _ _ _)) ; first | ((with_reducible apply go_cmp); rfl; rfl; rfl; rfl) | ((with_reducible apply go_add); rfl; rfl; rfl; omega) | ((with_reducible apply go_sub); rfl; rfl; rfl; omega))
             | (((with_reducible apply go_len_own); rfl; rfl; rfl))
             | (((with_reducible apply go_pick); rfl; rfl; rfl))
             | (((with_reducible apply go_bs1_agg); rfl; rfl; rfl; rfl; rfl; rfl)))
           | ((with_reducible (show evOps _ _ _ _ _ _)); first
             | (with_reducible apply go_nil)
             | ((with_reducible apply go_run); rfl; rfl)
             | ((with_reducible apply go_pass); rfl; rfl; rfl)
             | (((with_reducible apply go_guard); rfl) <;> (intro h; simp only [h, Bool.not_true, Bool.not_false]; (try with_reducible (refine ⟨rfl, ?_⟩)); try simp only [decide_eq_true_eq, decide_eq_false_iff_not, Bool.not_eq_true', Bool.not_eq_false', Bool.not_true, Bool.not_false] at h; try exact absurd trivial h))
             | ((with_reducible apply go_pre); rfl)
             | (with_reducible apply go_pre_nil)
             | ((with_reducible apply go_suf); rfl)
             | (with_reducible apply go_suf_nil))
           | ((with_reducible (show evG _ _ _ _ _)); first
             | (with_reducible apply go_seq)
             | (with_reducible apply go_region)
             | ((with_reducible apply go_cond_f); rfl; rfl)
             | ((with_reducible apply go_order); kernel_rfl; rfl)
             | (with_reducible apply go_exit))
           | (with_reducible apply go_kseq)
           | (with_reducible apply go_ksuf)
           | (with_reducible apply go_kblock_exit)
           | (with_reducible apply go_kseq_exit)
    all_goals try (exfalso; omega)
    refine go_app_mapt (f := encPt) (a := p) (l := R) (len := base.length + (0 + 1)) scalPt rfl rfl rfl (by omega) rfl (by kernel_rfl) (by kernel_rfl) (by kernel_rfl) (by omega) rfl ?_
    rw [← e]
    repeat' first
           | (with_reducible apply go_op)
           | (with_reducible apply go_next)
           | ((with_reducible (show evOp _ _ _ _ _ _)); first
             | ((with_reducible (show evOp _ (.move _) _ _ _ _)) ; first | ((with_reducible apply go_mv_int); rfl; rfl) | ((with_reducible apply go_mv_os); rfl; rfl))
             | ((with_reducible apply go_as))
             | (((with_reducible apply go_add); rfl; rfl; rfl; omega)))
           | ((with_reducible (show evOps _ _ _ _ _ _)); first
             | (with_reducible apply go_nil))
           | ((with_reducible (show evG _ _ _ _ _)); first
             | (with_reducible apply go_region))
           | (with_reducible apply go_kseq)
           | (with_reducible apply go_kblock)
    refine ⟨by omega, trivial, ?_⟩
    rw [show base.length + ((popS p s0).length + 1) = (base.length + (0 + 1)) + 1 by rw [hlen]]
    exact entails_eq (nx := 32) (k := 0) (ns := []) (ks := [23, 22, 21, 17, 4, 3, 0]) [(1, 1), (0, 0)] rfl (by simp) (by kernel_rfl)
  | b :: a :: t, hu, hpop, hsl, hR, hRt, hend =>
    obtain ⟨hx, ra, rb⟩ := rows_two hR
    have oka : ptOK a = true := hcm a (by rw [hu]; simp)
    have okb : ptOK b = true := hcm b (by rw [hu]; simp)
    have ia : R[0 + (base.length + t.length)]'(by omega) = a := by simpa using ra
    have ib : R[0 + (base.length + t.length + 1)]'(by omega) = b := by simpa using rb
    have yc := c_cross (R[0 + (base.length + t.length)]'(by omega)) (R[0 + (base.length + t.length + 1)]'(by omega)) p (by rw [ia]; exact oka) (by rw [ib]; exact okb) hpo
    have hcr : crossE (R[0 + (base.length + t.length)]'(by omega)) (R[0 + (base.length + t.length + 1)]'(by omega)) p = crossE a b p := by rw [ia, ib]
    clear ia ib ra rb
    simp only [List.length_cons] at *
    repeat' first
           | ((with_reducible apply (go_index_oq (i := (base.length + t.length)))); rfl; rfl; rfl; omega; rfl; rfl; (exact ⟨by omega, by omega⟩); (intro hlt))
           | ((with_reducible apply (go_index_oq (i := (base.length + t.length + 1)))); rfl; rfl; rfl; omega; rfl; rfl; (exact ⟨by omega, by omega⟩); (intro hlt))
           | (with_reducible apply go_op)
           | (with_reducible apply go_next)
           | ((with_reducible (show evOp _ _ _ _ _ _)); first
             | ((with_reducible (show evOp _ (.move _) _ _ _ _)) ; first | ((with_reducible apply go_mv_int); rfl; rfl) | ((with_reducible apply go_mv_bool); rfl; rfl) | ((with_reducible apply go_mv_os); rfl; rfl))
             | ((with_reducible apply go_as))
             | ((with_reducible (show evOp _ (.load _ _) _ _ _ _)) ; first | ((with_reducible apply go_load_om); rfl; rfl; rfl; rfl; rotate_left; assumption) | ((with_reducible apply go_ld_agg); rfl; rfl; rfl; rfl))
             | ((with_reducible (show evOp _ (.binOp _ _ _ _ _) _ _ _ _)) ; first | ((with_reducible apply go_cmp); rfl; rfl; rfl; rfl) | ((with_reducible apply go_add); rfl; rfl; rfl; omega) | ((with_reducible apply go_sub); rfl; rfl; rfl; omega))
             | ((with_reducible (show evOp _ (.call _) _ _ _ _)) ; first | ((with_reducible apply go_len_own); rfl; rfl; rfl) | ((with_reducible apply go_fn_int); rfl; (exact yc); rfl))
             | (((with_reducible apply go_take_os); rfl; rfl; rfl; rfl; rfl; omega))
             | (((with_reducible apply go_pick); rfl; rfl; rfl))
             | (((with_reducible apply go_bs1_agg); rfl; rfl; rfl; rfl; rfl; rfl)))
           | ((with_reducible (show evOps _ _ _ _ _ _)); first
             | (with_reducible apply go_nil)
             | ((with_reducible apply go_run); rfl; rfl)
             | ((with_reducible apply go_pass); rfl; rfl; rfl)
             | (((with_reducible apply go_guard); rfl) <;> (intro h; simp only [h, Bool.not_true, Bool.not_false]; (try with_reducible (refine ⟨rfl, ?_⟩)); try simp only [decide_eq_true_eq, decide_eq_false_iff_not, Bool.not_eq_true', Bool.not_eq_false', Bool.not_true, Bool.not_false] at h; try exact absurd trivial h))
             | ((with_reducible apply go_pre); rfl)
             | (with_reducible apply go_pre_nil)
             | ((with_reducible apply go_suf); rfl)
             | (with_reducible apply go_suf_nil))
           | ((with_reducible (show evG _ _ _ _ _)); first
             | (with_reducible apply go_seq)
             | (with_reducible apply go_region)
             | ((with_reducible apply go_cond_f); rfl; rfl)
             | (((with_reducible apply go_cond); rfl) <;> (intro h; simp only [h]; try simp only [decide_eq_true_eq, decide_eq_false_iff_not, Bool.not_eq_true', Bool.not_eq_false', Bool.not_true, Bool.not_false] at h; try exact absurd trivial h))
             | ((with_reducible apply go_order); kernel_rfl; rfl)
             | (with_reducible apply go_skipc)
             | (with_reducible apply go_block)
             | (with_reducible apply go_exit))
           | (with_reducible apply go_kseq)
           | (with_reducible apply go_ksuf)
           | (with_reducible apply go_kblock)
           | (with_reducible apply go_kblock_exit)
           | (with_reducible apply go_kseq_exit)
    all_goals try (exfalso; omega)
    · refine ⟨a :: t, by simp, ⟨u ++ [b], by rw [hu]; simp, by rw [← hpop]; conv => rhs; rw [popS, if_pos (by omega)]⟩, ?_⟩
      rw [show (((base.length + (t.length + 1 + 1) : Nat) : Int) - 1).toNat = base.length + (a :: t).length by rw [List.length_cons]; omega]
      exact entails_eq (nx := 32) (k := 0) (ns := []) (ks := [6, 23, 22, 21, 17, 4, 3, 0]) [(1, 1), (0, 0), (2, 2)] rfl (by simp) (by kernel_rfl)
    have hps : popS p s0 = b :: a :: t := by rw [← hpop, popS, if_neg (by omega)]
    have e := hend hps
    have hlen : (popS p s0).length = t.length + 1 + 1 := by rw [hps]; rfl
    refine go_app_mapt (f := encPt) (a := p) (l := R) (len := base.length + (t.length + 1 + 1)) scalPt rfl rfl rfl (by omega) rfl (by kernel_rfl) (by kernel_rfl) (by kernel_rfl) (by omega) rfl ?_
    rw [← e]
    repeat' first
           | (with_reducible apply go_op)
           | (with_reducible apply go_next)
           | ((with_reducible (show evOp _ _ _ _ _ _)); first
             | ((with_reducible (show evOp _ (.move _) _ _ _ _)) ; first | ((with_reducible apply go_mv_int); rfl; rfl) | ((with_reducible apply go_mv_os); rfl; rfl))
             | ((with_reducible apply go_as))
             | (((with_reducible apply go_add); rfl; rfl; rfl; omega)))
           | ((with_reducible (show evOps _ _ _ _ _ _)); first
             | (with_reducible apply go_nil))
           | ((with_reducible (show evG _ _ _ _ _)); first
             | (with_reducible apply go_region))
           | (with_reducible apply go_kseq)
           | (with_reducible apply go_kblock)
    refine ⟨by omega, trivial, ?_⟩
    rw [show base.length + ((popS p s0).length + 1) = (base.length + (t.length + 1 + 1)) + 1 by rw [hlen]; omega]
    exact entails_eq (nx := 32) (k := 0) (ns := []) (ks := [23, 22, 21, 17, 4, 3, 0]) [(1, 1), (0, 0)] rfl (by simp) (by kernel_rfl)
end Go.Pv.Geo

namespace Go.Pv.Geo
open Go Go.Proofs Go.Pv
/- The list in order, each once: strictly ordered, and with the same members; the hull of it. Plain. -/
theorem sort_sorted {l : List Pt} (hok : ∀ p ∈ l, ptOK p = true) : (sortPts l).Pairwise fun a b => key a ≤ key b := by
  have h : (sortPts l).Pairwise fun x y => (!(ltOf aheadE) y x) = true := by
    unfold sortPts sortBy
    refine List.pairwise_mergeSort ?_ ?_ l
    · intro a b c h1 h2
      rw [Bool.not_eq_true'] at *
      exact ahead_swo.ntrans c b a h2 h1
    · intro a b
      cases h : ltOf aheadE b a with
      | false => rfl
      | true =>
        cases h' : ltOf aheadE a b with
        | false => rfl
        | true => have := ahead_swo.trans a b a h' h; rw [ahead_swo.irrefl] at this; cases this
  refine List.Pairwise.imp_of_mem (fun {a b} ha hb hab => ?_) h
  rw [Bool.not_eq_true', ahead_lt, decide_eq_false_iff_not] at hab
  have h1 := hok a ((sort_mem l a).1 ha)
  have h2 := hok b ((sort_mem l b).1 hb)
  have := key_lt h2 h1
  apply Classical.byContradiction
  intro hn
  exact hab (this.1 (by omega))
theorem compT_get {l : List Pt} {m : Nat} (hm : m ≤ l.length) {p : Pt} (h : p ∈ compT l m) : ∃ j, ∃ hj : j < l.length, j < m ∧ p = l[j] := by
  unfold compT at h
  obtain ⟨i, hi, rfl⟩ := List.mem_map.1 h
  have hi := List.mem_range.1 (List.mem_filter.1 hi).1
  exact ⟨i, by omega, hi, by rw [List.getD_eq_getElem?_getD, List.getElem?_eq_getElem (by omega)]; rfl⟩
theorem comp_sorted {l : List Pt} (hok : ∀ p ∈ l, ptOK p = true) (hs : l.Pairwise fun a b => key a ≤ key b) : ∀ m, m ≤ l.length → (compT l m).Pairwise fun a b => key a < key b
  | 0, _ => by simp [compT]
  | m + 1, hm => by
    have ih := comp_sorted hok hs m (by omega)
    cases hk : keepB l m with
    | false => rw [compT_no hk]; exact ih
    | true =>
      rw [compT_yes hk, List.getD_eq_getElem?_getD, List.getElem?_eq_getElem (by omega)]
      refine List.pairwise_append.2 ⟨ih, by simp, fun a ha b hb => ?_⟩
      obtain rfl : b = l[m] := by simpa using hb
      obtain ⟨j, hj, hjm, rfl⟩ := compT_get (m := m) (by omega) ha
      have hm0 : 0 < m := by omega
      rw [keep_iff hm0 (by omega), Bool.not_eq_true'] at hk
      have hne : l[m] ≠ l[m - 1]'(by omega) := fun e => by rw [ptEq_iff.2 e] at hk; cases hk
      have h1 : key l[j] ≤ key (l[m - 1]'(by omega)) := by
        by_cases e : j = m - 1
        · subst e; exact Int.le_refl _
        · exact (List.pairwise_iff_getElem.1 hs) j (m - 1) (by omega) (by omega) (by omega)
      have h2 := (List.pairwise_iff_getElem.1 hs) (m - 1) m (by omega) (by omega) (by omega)
      have h3 : key (l[m - 1]'(by omega)) ≠ key l[m] := fun e => hne (key_inj (hok _ (List.getElem_mem _)) (hok _ (List.getElem_mem _)) e).symm
      omega
theorem comp_all {l : List Pt} : ∀ m, m ≤ l.length → ∀ j, (hj : j < l.length) → j < m → l[j] ∈ compT l m
  | 0, _, j, _, h => by omega
  | m + 1, hm, j, hj, h => by
    have ih := comp_all (l := l) m (by omega)
    cases hk : keepB l m with
    | true =>
      rw [compT_yes hk]
      by_cases e : j = m
      · subst e; rw [List.getD_eq_getElem?_getD, List.getElem?_eq_getElem hj]; simp
      · exact List.mem_append.2 (.inl (ih j hj (by omega)))
    | false =>
      rw [compT_no hk]
      by_cases e : j = m
      · subst e
        have hm0 : 0 < j := by
          apply Classical.byContradiction; intro hn
          have : j = 0 := by omega
          subst this; cases hk
        rw [keep_iff hm0 hj, Bool.not_eq_false'] at hk
        rw [ptEq_iff.1 hk]
        exact ih (j - 1) (by omega) (by omega)
      · exact ih j hj (by omega)
theorem ord_sorted {l : List Pt} (hok : ∀ p ∈ l, ptOK p = true) : (ordL l).Pairwise fun a b => key a < key b :=
  comp_sorted (fun p hp => hok p ((sort_mem l p).1 hp)) (sort_sorted hok) _ (Nat.le_refl _)
theorem ord_mem (l : List Pt) (p : Pt) : p ∈ ordL l ↔ p ∈ l := by
  refine ⟨ord_sub, fun h => ?_⟩
  obtain ⟨j, hj, rfl⟩ := List.getElem_of_mem ((sort_mem l p).2 h)
  exact comp_all _ (Nat.le_refl _) j hj hj
theorem hullR_of {l : List Pt} (hok : ∀ p ∈ l, ptOK p = true) (h2 : 2 ≤ (ordL l).length) : HullOf l (hullR l) ∧ (hullR l).head? = (ordL l).head? := by
  have h := hull_of (L := l) (ord_sorted hok) h2 (fun r => (ord_mem l r).symm)
  rw [show hullR l = hullL (ordL l) from if_neg (by omega)]
  exact h
/-- What the reference's walk finds: the next corner, or the same place where all are one. -/
theorem ord_pos {l : List Pt} (h : 0 < l.length) : 0 < (ordL l).length := by
  have : l[0] ∈ ordL l := (ord_mem l _).2 (List.getElem_mem h)
  exact List.length_pos_of_mem this
theorem hullR_len {l : List Pt} (hok : ∀ p ∈ l, ptOK p = true) : (hullR l).length ≤ l.length := by
  by_cases h2 : 2 ≤ (ordL l).length
  · exact (hullR_of hok h2).1.len'
  · rw [show hullR l = ordL l from if_pos (by omega)]; exact ord_len l
theorem hullR_pos {l : List Pt} (hok : ∀ p ∈ l, ptOK p = true) (h : 0 < l.length) : 0 < (hullR l).length := by
  by_cases h2 : 2 ≤ (ordL l).length
  · have := (hullR_of hok h2).1.len; omega
  · rw [show hullR l = ordL l from if_pos (by omega)]; exact ord_pos h
theorem hullR_mem {l : List Pt} (hok : ∀ p ∈ l, ptOK p = true) {p : Pt} (h : p ∈ hullR l) : p ∈ l := by
  by_cases h2 : 2 ≤ (ordL l).length
  · exact (hullR_of hok h2).1.mem p h
  · rw [show hullR l = ordL l from if_pos (by omega)] at h; exact ord_sub h
theorem hullR_wrap {l : List Pt} (hok : ∀ p ∈ l, ptOK p = true) {j : Nat} (hj : j < (hullR l).length) : wrapS l (hullR l)[j] = (hullR l)[(j + 1) % (hullR l).length]'(Nat.mod_lt _ (by omega)) := by
  by_cases h2 : 2 ≤ (ordL l).length
  · exact wrap_edge ((hullR_of hok h2).1.edge j hj)
  · have e : hullR l = ordL l := if_pos (by omega)
    have hl1 : (hullR l).length = 1 := by rw [e] at hj ⊢; omega
    obtain ⟨q, hq⟩ := List.length_eq_one_iff.1 hl1
    have all : ∀ p ∈ l, p = q := fun p hp => by
      have := (ord_mem l p).2 hp
      rw [← e, hq] at this; simpa using this
    have hj0 : j = 0 := by omega
    subst hj0
    simp only [hq, List.length_singleton, Nat.mod_one, List.getElem_cons_zero]
    unfold wrapS
    have : ∀ (l' : List Pt) (n : Pt), (∀ p ∈ l', p = q) → n = q → l'.foldl (wrapN q) n = q := by
      intro l'
      induction l' with
      | nil => intro n _ hn; exact hn
      | cons a l' ih =>
        intro n ha hn
        rw [List.foldl_cons]
        refine ih _ (fun p hp => ha p (by simp [hp])) ?_
        unfold wrapN; split
        · exact ha a (by simp)
        · exact hn
    exact this l q all rfl
/-- The first place by the order. -/
def minN (f p : Pt) : Pt := if key p < key f then p else f
def minT (l : List Pt) (m : Nat) : Pt := (l.take m).foldl minN (l.getD 0 ⟨0, 0⟩)
theorem minT_step {l : List Pt} {m : Nat} (hm : m < l.length) : minT l (m + 1) = minN (minT l m) l[m] := by
  unfold minT
  rw [List.take_add_one, List.getElem?_eq_getElem hm, List.foldl_append]
  rfl
theorem minT_spec {l : List Pt} (h0 : 0 < l.length) : ∀ m, m ≤ l.length → minT l m ∈ l ∧ ∀ j, (hj : j < l.length) → j < m → key (minT l m) ≤ key l[j]
  | 0, _ => ⟨by simp only [minT, List.take_zero, List.foldl_nil]; rw [List.getD_eq_getElem?_getD, List.getElem?_eq_getElem h0]; exact List.getElem_mem _, fun j _ h => by omega⟩
  | m + 1, hm => by
    have ih := minT_spec h0 m (by omega)
    rw [minT_step (by omega)]
    unfold minN
    refine ⟨by split; exact List.getElem_mem _; exact ih.1, fun j hj hjm => ?_⟩
    by_cases e : j = m
    · subst e; split <;> omega
    · have := ih.2 j hj (by omega)
      split <;> omega
theorem minT_one {l : List Pt} (h0 : 0 < l.length) : minT l 1 = l[0] := by
  rw [minT_step h0]
  simp only [minT, List.take_zero, List.foldl_nil]
  rw [List.getD_eq_getElem?_getD, List.getElem?_eq_getElem h0]
  unfold minN; simp
theorem minT_all {l : List Pt} (hok : ∀ p ∈ l, ptOK p = true) (h0 : 0 < l.length) : minT l l.length = (hullR l)[0]'(hullR_pos hok h0) := by
  have hp := ord_pos h0
  have e : (hullR l).head? = (ordL l).head? := by
    by_cases h2 : 2 ≤ (ordL l).length
    · exact (hullR_of hok h2).2
    · rw [show hullR l = ordL l from if_pos (by omega)]
  have e' : (hullR l)[0]'(hullR_pos hok h0) = (ordL l)[0] := by
    rw [List.head?_eq_getElem?, List.head?_eq_getElem?, List.getElem?_eq_getElem (hullR_pos hok h0), List.getElem?_eq_getElem hp] at e
    exact Option.some.inj e
  rw [e']
  have hs := minT_spec h0 l.length (Nat.le_refl _)
  have hm : (ordL l)[0] ∈ l := (ord_mem l _).1 (List.getElem_mem _)
  have k1 : key (minT l l.length) ≤ key (ordL l)[0] := by
    obtain ⟨j, hj, hje⟩ := List.getElem_of_mem hm
    rw [← hje]; exact hs.2 j hj hj
  have k2 : key (ordL l)[0] ≤ key (minT l l.length) := by
    obtain ⟨j, hj, hje⟩ := List.getElem_of_mem ((ord_mem l _).2 hs.1)
    rw [← hje]
    by_cases e : j = 0
    · subst e; exact Int.le_refl _
    · have := (List.pairwise_iff_getElem.1 (ord_sorted hok)) 0 j hp hj (by omega); omega
  exact key_inj (hok _ hs.1) (hok _ hm) (by omega)
end Go.Pv.Geo

open Go Go.Proofs Go.Pv
set_option maxHeartbeats 8000000
set_option maxRecDepth 100000
set_option linter.unusedSimpArgs false
set_option linter.unusedVariables false
namespace Go.Pv.Geo
theorem c_Before (a b : Pt) (ha : ptOK a = true) (hb : ptOK b = true) : Contract Try.prog 79 [.agg (encPt a), .agg (encPt b)] (.ret (.bool (decide (key a < key b)))) := by
  have h := key_lt ha hb
  have e : decide (key a < key b) = decide (a.x < b.x ∨ (a.x = b.x ∧ a.y < b.y)) := decide_eq_decide.2 h
  rw [e]
  refine contract_of mix Try.func79 rfl rfl (by rw [Try.ntmps79]; exact Nat.le_of_ble_eq_true rfl) ?_; rw [Try.results79, Try.ntmps79]; simp only [argsE, Nat.reduceAdd]
  repeat' first
           | (with_reducible apply go_op)
           | (with_reducible apply go_next)
           | ((with_reducible (show evOp _ _ _ _ _ _)); first
             | (((with_reducible apply go_mv_bool); rfl; rfl))
             | ((with_reducible apply go_as))
             | (((with_reducible apply go_load_own); rfl; rfl; rfl; rfl))
             | (((with_reducible apply go_fieldAddr_own); rfl; rfl; rfl))
             | (((with_reducible apply go_cmp); rfl; rfl; rfl; rfl))
             | (((with_reducible apply go_pick); rfl; rfl; rfl))
             | (((with_reducible apply go_bx_agg); rfl; rfl; (exact Nat.le_of_ble_eq_true rfl); rfl; rfl)))
           | ((with_reducible (show evOps _ _ _ _ _ _)); first
             | (with_reducible apply go_nil)
             | ((with_reducible apply go_run); rfl; rfl)
             | ((with_reducible apply go_pass); rfl; rfl; rfl)
             | ((with_reducible apply go_skip); rfl; rfl)
             | (((with_reducible apply go_guard); rfl) <;> (intro h; simp only [h, Bool.not_true, Bool.not_false]; (try with_reducible (refine ⟨rfl, ?_⟩)); try simp only [decide_eq_true_eq, decide_eq_false_iff_not, Bool.not_eq_true', Bool.not_eq_false', Bool.not_true, Bool.not_false] at h; try exact absurd trivial h)))
           | ((with_reducible (show evG _ _ _ _ _)); first
             | (with_reducible apply go_seq)
             | (with_reducible apply go_region)
             | (with_reducible apply go_ret))
           | (with_reducible apply go_kseq)
           | ((with_reducible apply end_bool); rfl)
  all_goals first
    | (simp; omega)
    | (simp_all; done)
    | trace_state
def wrapT (l : List Pt) (a : Pt) (m : Nat) : Pt := (l.take m).foldl (wrapN a) a
theorem wrapT_step {l : List Pt} {a : Pt} {m : Nat} (hm : m < l.length) : wrapT l a (m + 1) = wrapN a (wrapT l a m) l[m] := by
  unfold wrapT
  rw [List.take_add_one, List.getElem?_eq_getElem hm, List.foldl_append]
  rfl
theorem wrapT_all (l : List Pt) (a : Pt) : wrapT l a l.length = wrapS l a := by unfold wrapT wrapS; rw [List.take_length]
theorem wrapT_mem {l : List Pt} {a : Pt} (ha : a ∈ l) : ∀ m, m ≤ l.length → wrapT l a m ∈ l
  | 0, _ => by simpa [wrapT] using ha
  | m + 1, hm => by
    rw [wrapT_step (by omega)]
    unfold wrapN; split
    · exact List.getElem_mem _
    · exact wrapT_mem ha m (by omega)
theorem hullR_ne {l : List Pt} (hok : ∀ p ∈ l, ptOK p = true) {j : Nat} (hj : j + 1 < (hullR l).length) : (hullR l)[j + 1] ≠ (hullR l)[0]'(by omega) ∧ (hullR l)[j + 1] ≠ (hullR l)[j] := by
  have h2 : 2 ≤ (ordL l).length := by
    apply Classical.byContradiction; intro hn
    have e : hullR l = ordL l := if_pos (by omega)
    rw [e] at hj; omega
  have hn := (hullR_of hok h2).1.nodup
  refine ⟨fun e => ?_, fun e => ?_⟩
  · have := (List.getElem_inj hn).1 e; omega
  · have := (List.getElem_inj hn).1 e; omega
theorem sign_lt0 {n : Int} : signE n < 0 ↔ n < 0 := by unfold signE; (repeat' split) <;> omega
theorem sign_eq0 {n : Int} : signE n = 0 ↔ n = 0 := by unfold signE; (repeat' split) <;> omega
theorem c_rHull (l : List Pt) (hl : l.length ≤ 1000000) (hok : ∀ p ∈ l, ptOK p = true) : Contract Try.prog 29 [.sl (l.map encPt)] (.ret (.fr 2 ((hullR l).map encPt))) := by
  by_cases h0 : 0 < l.length
  rotate_left
  · have hnil : l = [] := List.eq_nil_of_length_eq_zero (by omega)
    subst hnil
    have e : hullR [] = [] := by
      have := ord_len []
      have e2 : ordL [] = [] := List.eq_nil_of_length_eq_zero (by simpa using this)
      rw [show hullR [] = ordL [] from if_pos (by rw [e2]; decide), e2]
    rw [e]
    refine contract_of mix Try.func29 rfl rfl (by rw [Try.ntmps29]; exact Nat.le_of_ble_eq_true rfl) ?_; rw [Try.results29, Try.ntmps29]; simp only [argsE, Nat.reduceAdd]
    repeat' first
           | (with_reducible apply go_op)
           | (with_reducible apply go_next)
           | ((with_reducible (show evOp _ _ _ _ _ _)); first
             | ((with_reducible (show evOp _ (.move _) _ _ _ _)) ; first | ((with_reducible apply go_mv_sl); rfl; rfl) | ((with_reducible apply go_mv_nilsl); rfl; rfl))
             | ((with_reducible apply go_as))
             | (((with_reducible apply go_cmp); rfl; rfl; rfl; rfl))
             | (((with_reducible apply go_len); rfl; rfl)))
           | ((with_reducible (show evOps _ _ _ _ _ _)); first
             | (with_reducible apply go_nil))
           | ((with_reducible (show evG _ _ _ _ _)); first
             | (with_reducible apply go_seq)
             | (with_reducible apply go_region)
             | ((with_reducible apply go_cond_t); rfl; rfl)
             | (with_reducible apply go_ret))
           | (with_reducible apply go_kseq)
           | (with_reducible apply go_kseq_ret)
    all_goals first
      | (exfalso; omega)
      | (exfalso; simp at *; done)
      | exact finK_ret (fin_nil1 rfl)
      | trace_state
  have hH := hullR_pos hok h0
  refine contract_of mix Try.func29 rfl rfl (by rw [Try.ntmps29]; exact Nat.le_of_ble_eq_true rfl) ?_; rw [Try.results29, Try.ntmps29]; simp only [argsE, Nat.reduceAdd]
  repeat' first
           | (with_reducible apply go_op)
           | (with_reducible apply go_next)
           | ((with_reducible (show evOp _ _ _ _ _ _)); first
             | ((with_reducible (show evOp _ (.move _) _ _ _ _)) ; first | ((with_reducible apply go_mv_int); rfl; rfl) | ((with_reducible apply go_mv_sl); rfl; rfl) | ((with_reducible apply go_mv_nilsl); rfl; rfl))
             | ((with_reducible apply go_as))
             | (((with_reducible apply go_ld_ptr); rfl; rfl; rfl))
             | (((with_reducible apply go_index); rfl; rfl; (intro; rfl); rfl; omega; intro hlt))
             | (((with_reducible apply go_cmp); rfl; rfl; rfl; rfl))
             | (((with_reducible apply go_len); rfl; rfl))
             | (((with_reducible apply go_st_agg); rfl; rfl; rfl; rfl; rfl; rfl; rfl))
             | (((with_reducible apply go_alloc); rfl; rfl; rfl)))
           | ((with_reducible (show evOps _ _ _ _ _ _)); first
             | (with_reducible apply go_nil))
           | ((with_reducible (show evG _ _ _ _ _)); first
             | (with_reducible apply go_seq)
             | (with_reducible apply go_region)
             | (((with_reducible apply go_cond); rfl) <;> (intro h; simp only [h]; try simp only [decide_eq_true_eq, decide_eq_false_iff_not, Bool.not_eq_true', Bool.not_eq_false', Bool.not_true, Bool.not_false] at h; try exact absurd trivial h))
             | (with_reducible apply go_ret)
             | (with_reducible apply go_skipc)
             | (with_reducible apply go_block))
           | (with_reducible apply go_kseq)
           | (with_reducible apply go_kseq_ret)
           | ((with_reducible apply end_ret); apply fin1; rfl; rfl; rfl)
  all_goals try (exfalso; omega)
  refine go_count (l.length - 1) (fun i => ⟨[(4, .int .i64 ((i + 1 : Nat) : Int)), (3, .op 0 0 0), (0, .sl (l.map encPt))], [(0, ⟨2, true, [encPt (minT l (i + 1))]⟩)], 32, 99⟩) (fun i => True)
    (entails_eq (nx := 32) (k := 0) (ns := []) (ks := [4, 3, 0]) [(224, 0)] rfl (by simp) (by simp only [Nat.zero_add]; rw [minT_one h0]; kernel_rfl)) trivial ?_
  intro i hi _
  by_cases hlt : i + 1 < l.length
  · have hst := minT_step hlt
    have y1 := c_Before l[i + 1] (minT l (i + 1)) (hok _ (List.getElem_mem _)) (hok _ (minT_spec h0 (i + 1) (by omega)).1)
    unfold minN at hst
    generalize minT l (i + 1) = f at *
    repeat' first
           | (with_reducible apply go_op)
           | (with_reducible apply go_next)
           | ((with_reducible (show evOp _ _ _ _ _ _)); first
             | ((with_reducible (show evOp _ (.move _) _ _ _ _)) ; first | ((with_reducible apply go_mv_int); rfl; rfl) | ((with_reducible apply go_mv_sl); rfl; rfl) | ((with_reducible apply go_mv_os); rfl; rfl))
             | ((with_reducible apply go_as))
             | ((with_reducible (show evOp _ (.load _ _) _ _ _ _)) ; first | ((with_reducible apply go_ld_ptr); rfl; rfl; rfl) | ((with_reducible apply go_ld_agg); rfl; rfl; rfl; rfl))
             | (((with_reducible apply go_index_nat); rfl; rfl; (with_reducible rfl); (intro; rfl); rfl; omega; (intro hlt)))
             | ((with_reducible (show evOp _ (.binOp _ _ _ _ _) _ _ _ _)) ; first | ((with_reducible apply go_cmp); rfl; rfl; rfl; rfl) | ((with_reducible apply go_add); rfl; rfl; rfl; omega))
             | ((with_reducible (show evOp _ (.call _) _ _ _ _)) ; first | ((with_reducible apply go_len); rfl; rfl) | ((with_reducible apply go_fn_bool); rfl; (exact y1); rfl))
             | (((with_reducible apply go_st_agg); rfl; rfl; rfl; rfl; rfl; rfl; rfl))
             | (((with_reducible apply go_bs1_agg); rfl; rfl; rfl; rfl; rfl; rfl)))
           | ((with_reducible (show evOps _ _ _ _ _ _)); first
             | (with_reducible apply go_nil)
             | ((with_reducible apply go_pre); rfl)
             | (with_reducible apply go_pre_nil)
             | ((with_reducible apply go_suf); rfl)
             | (with_reducible apply go_suf_nil))
           | ((with_reducible (show evG _ _ _ _ _)); first
             | (with_reducible apply go_seq)
             | (with_reducible apply go_region)
             | (((with_reducible apply go_cond); rfl) <;> (intro h; simp only [h]; try simp only [decide_eq_true_eq, decide_eq_false_iff_not, Bool.not_eq_true', Bool.not_eq_false', Bool.not_true, Bool.not_false] at h; try exact absurd trivial h))
             | ((with_reducible apply go_order); kernel_rfl; rfl)
             | (with_reducible apply go_skipc)
             | (with_reducible apply go_block)
             | (with_reducible apply go_exit))
           | (with_reducible apply go_kseq)
           | (with_reducible apply go_ksuf)
           | (with_reducible apply go_kblock)
           | (with_reducible apply go_kblock_exit)
           | (with_reducible apply go_kseq_exit)
    all_goals try (exfalso; omega)
    · refine ⟨by omega, trivial, ?_⟩
      rw [show minT l (i + 1 + 1) = l[i + 1] by rw [hst, if_pos (by assumption)]]
      exact entails_eq (nx := 32) (k := 0) (ns := []) (ks := [4, 3, 0]) [(0, 0)] rfl (by simp) (by kernel_rfl)
    · refine ⟨by omega, trivial, ?_⟩
      rw [show minT l (i + 1 + 1) = f by rw [hst, if_neg (by assumption)]]
      exact entails_eq (nx := 32) (k := 0) (ns := []) (ks := [4, 3, 0]) [(0, 0)] rfl (by simp) (by kernel_rfl)
  have e : i + 1 = l.length := by omega
  rw [e]
  obtain ⟨f0, hf0⟩ : ∃ f, f = minT l l.length := ⟨_, rfl⟩
  rw [← hf0]
  have hf : ∀ h : 0 < (hullR l).length, f0 = (hullR l)[0]'h := fun h => hf0.trans (minT_all hok h0)
  clear hf0
  have hkl := hullR_len hok
  have hmem : ∀ p ∈ hullR l, p ∈ l := fun p hp => hullR_mem hok hp
  have hwr : ∀ j (hj : j < (hullR l).length) (hm : (j + 1) % (hullR l).length < (hullR l).length), wrapS l ((hullR l)[j]'hj) = (hullR l)[(j + 1) % (hullR l).length]'hm := fun j hj hm => hullR_wrap hok hj
  have hne : ∀ j (hj : j + 1 < (hullR l).length) (ha : 0 < (hullR l).length) (hb : j < (hullR l).length), (hullR l)[j + 1]'hj ≠ (hullR l)[0]'ha ∧ (hullR l)[j + 1]'hj ≠ (hullR l)[j]'hb := fun j hj ha hb => hullR_ne hok hj
  clear e hi hlt
  generalize hullR l = H at *
  repeat' first
           | (with_reducible apply go_op)
           | (with_reducible apply go_next)
           | ((with_reducible (show evOp _ _ _ _ _ _)); first
             | ((with_reducible (show evOp _ (.move _) _ _ _ _)) ; first | ((with_reducible apply go_mv_int); rfl; rfl) | ((with_reducible apply go_mv_sl); rfl; rfl) | ((with_reducible apply go_mv_os); rfl; rfl))
             | ((with_reducible apply go_as))
             | ((with_reducible (show evOp _ (.load _ _) _ _ _ _)) ; first | ((with_reducible apply go_ld_ptr); rfl; rfl; rfl) | ((with_reducible apply go_ld_agg); rfl; rfl; rfl; rfl))
             | (((with_reducible apply go_index_nat); rfl; rfl; (with_reducible rfl); (intro; rfl); rfl; omega; (intro hlt)))
             | (((with_reducible apply go_cmp); rfl; rfl; rfl; rfl))
             | (((with_reducible apply go_len); rfl; rfl))
             | (((with_reducible apply go_bs1_agg); rfl; rfl; rfl; rfl; rfl; rfl)))
           | ((with_reducible (show evOps _ _ _ _ _ _)); first
             | (with_reducible apply go_nil)
             | ((with_reducible apply go_pre); rfl))
           | ((with_reducible (show evG _ _ _ _ _)); first
             | (with_reducible apply go_seq)
             | (with_reducible apply go_region)
             | (((with_reducible apply go_cond); rfl) <;> (intro h; simp only [h]; try simp only [decide_eq_true_eq, decide_eq_false_iff_not, Bool.not_eq_true', Bool.not_eq_false', Bool.not_true, Bool.not_false] at h; try exact absurd trivial h))
             | ((with_reducible apply go_order); kernel_rfl; rfl)
             | (with_reducible apply go_skipc)
             | (with_reducible apply go_block)
             | (with_reducible apply go_exit))
           | (with_reducible apply go_kseq)
           | (with_reducible apply go_kblock_exit)
           | (with_reducible apply go_kseq_exit)
  all_goals try (exfalso; omega)
  have hfH := hf hH
  have hne0 : ∀ j (hj : j + 1 < H.length), H[j + 1] ≠ f0 := fun j hj => by rw [hfH]; exact (hne j hj hH (by omega)).1
  refine go_count (H.length - 1) (fun j => ⟨[(5, .os 1 0 (j + 1)), (3, .op 0 0 0), (0, .sl (l.map encPt))], [(1, ⟨2, true, (H.take (j + 1)).map encPt⟩), (0, ⟨2, true, [encPt f0]⟩)], 32, 99⟩) (fun j => True)
    (entails_eq (nx := 32) (k := 0) (ns := []) (ks := [5, 3, 0]) [(192, 1), (0, 0)] rfl (by simp) (by rw [show H.take (0 + 1) = [f0] by rw [hfH, List.take_one, List.head?_eq_getElem?, List.getElem?_eq_getElem hH]; rfl]; kernel_rfl)) trivial ?_
  intro j hj _
  have hjH : j < H.length := by omega
  have htl : (H.take (j + 1)).length = j + 1 := by rw [List.length_take]; omega
  have htg : ∀ h : j < (H.take (j + 1)).length, (H.take (j + 1))[j]'h = H[j] := fun h => List.getElem_take
  have hTn : ∀ h : j + 1 < H.length, H.take (j + 1) ++ [H[j + 1]] = H.take (j + 1 + 1) := fun h => by rw [List.take_add_one (i := j + 1), List.getElem?_eq_getElem h]; rfl
  have hTe : j + 1 = H.length → H.take (j + 1) = H := fun h => List.take_of_length_le (by omega)
  have hoka : ptOK H[j] = true := hok _ (hmem _ (List.getElem_mem _))
  have hma : H[j] ∈ l := hmem _ (List.getElem_mem _)
  have hwj := hwr j hjH (Nat.mod_lt _ hH)
  have hnj : ∀ h : j + 1 < H.length, H[j + 1] ≠ f0 ∧ H[j + 1] ≠ H[j] := fun h => ⟨hne0 j h, (hne j h hH hjH).2⟩
  have hwj1 : ∀ h : j + 1 < H.length, wrapS l H[j] = H[j + 1] := fun h => by rw [hwj]; congr 1; exact Nat.mod_eq_of_lt h
  have hwj2 : j + 1 = H.length → wrapS l H[j] = f0 := fun h => by rw [hwj, hfH]; congr 1; rw [h]; exact Nat.mod_self _
  clear hwj hwr hne hne0 hf hmem
  generalize hA : H[j] = a at *
  generalize hT : H.take (j + 1) = T at *
  have hTa : ∀ h : 0 + j < T.length, T[0 + j]'h = a := fun h => by rw [← htg (by omega)]; congr 1; omega
  repeat' first
           | ((with_reducible apply (go_index_oq (i := j))); rfl; rfl; rfl; omega; rfl; rfl; (exact ⟨by omega, by omega⟩); (intro hlt))
           | (with_reducible apply go_op)
           | (with_reducible apply go_next)
           | ((with_reducible (show evOp _ _ _ _ _ _)); first
             | ((with_reducible (show evOp _ (.move _) _ _ _ _)) ; first | ((with_reducible apply go_mv_int); rfl; rfl) | ((with_reducible apply go_mv_sl); rfl; rfl) | ((with_reducible apply go_mv_os); rfl; rfl))
             | ((with_reducible apply go_as))
             | ((with_reducible (show evOp _ (.load _ _) _ _ _ _)) ; first | ((with_reducible apply go_load_om); rfl; rfl; rfl; rfl; rotate_left; assumption) | ((with_reducible apply go_ld_agg); rfl; rfl; rfl; rfl))
             | ((with_reducible (show evOp _ (.binOp _ _ _ _ _) _ _ _ _)) ; first | ((with_reducible apply go_cmp); rfl; rfl; rfl; rfl) | ((with_reducible apply go_sub); rfl; rfl; rfl; omega))
             | ((with_reducible (show evOp _ (.call _) _ _ _ _)) ; first | ((with_reducible apply go_len); rfl; rfl) | ((with_reducible apply go_len_own); rfl; rfl; rfl))
             | (((with_reducible apply go_st_agg); rfl; rfl; rfl; rfl; rfl; rfl; rfl))
             | (((with_reducible apply go_alloc); rfl; rfl; rfl)))
           | ((with_reducible (show evOps _ _ _ _ _ _)); first
             | (with_reducible apply go_nil))
           | ((with_reducible (show evG _ _ _ _ _)); first
             | (with_reducible apply go_seq)
             | (with_reducible apply go_region)
             | (((with_reducible apply go_cond); rfl) <;> (intro h; simp only [h]; try simp only [decide_eq_true_eq, decide_eq_false_iff_not, Bool.not_eq_true', Bool.not_eq_false', Bool.not_true, Bool.not_false] at h; try exact absurd trivial h))
             | (with_reducible apply go_ret)
             | (with_reducible apply go_skipc)
             | (with_reducible apply go_block)
             | (with_reducible apply go_exit))
           | (with_reducible apply go_kseq)
           | (with_reducible apply go_kblock_exit)
           | (with_reducible apply go_kseq_exit)
  all_goals try (exfalso; omega)
  simp only [hTa]
  refine go_count l.length (fun m => ⟨[(8, .int .i64 m), (7, .op 3 0 0), (6, .op 2 0 0), (5, .os 1 0 (j + 1)), (3, .op 0 0 0), (0, .sl (l.map encPt))], [(1, ⟨2, true, T.map encPt⟩), (0, ⟨2, true, [encPt f0]⟩), (2, ⟨2, true, [encPt a]⟩), (3, ⟨2, true, [encPt (wrapT l a m)]⟩)], 32, 99⟩) (fun m => True)
    (entails_eq (nx := 32) (k := 0) (ns := []) (ks := [8, 7, 6, 5, 3, 0]) [(1, 1), (0, 0), (384, 2), (480, 3)] rfl (by simp) (by kernel_rfl)) trivial ?_
  intro m hm _
  by_cases hlt : m < l.length
  · have hst := wrapT_step (a := a) hlt
    have hokn := hok _ (wrapT_mem hma m (by omega))
    have hokp := hok _ (List.getElem_mem hlt)
    unfold wrapN at hst
    generalize wrapT l a m = nx at *
    have y1 := c_rorient a nx l[m] hoka hokn hokp
    have y2 := c_rsquare a l[m] hoka hokp
    have y3 := c_rsquare a nx hoka hokn
    have s1 := sign_lt0 (n := crossE a nx l[m])
    have s2 := sign_eq0 (n := crossE a nx l[m])
    have hpt := ptEq_iff (a := nx) (b := a)
    unfold ptEq at hpt
    have hyes : (nx = a ∨ crossE a nx l[m] < 0 ∨ (crossE a nx l[m] = 0 ∧ sqE a nx < sqE a l[m])) → wrapT l a (m + 1) = l[m] := fun h => by rw [hst, if_pos h]
    have hno : ¬ (nx = a ∨ crossE a nx l[m] < 0 ∨ (crossE a nx l[m] = 0 ∧ sqE a nx < sqE a l[m])) → wrapT l a (m + 1) = nx := fun h => by rw [hst, if_neg h]
    clear hst
    generalize signE (crossE a nx l[m]) = sg at *
    generalize crossE a nx l[m] = cr at *
    repeat' first
           | (with_reducible apply go_op)
           | (with_reducible apply go_next)
           | ((with_reducible (show evOp _ _ _ _ _ _)); first
             | ((with_reducible (show evOp _ (.move _) _ _ _ _)) ; first | ((with_reducible apply go_mv_int); rfl; rfl) | ((with_reducible apply go_mv_bool); rfl; rfl) | ((with_reducible apply go_mv_sl); rfl; rfl) | ((with_reducible apply go_mv_os); rfl; rfl))
             | ((with_reducible apply go_as))
             | ((with_reducible (show evOp _ (.load _ _) _ _ _ _)) ; first | ((with_reducible apply go_ld_ptr); rfl; rfl; rfl) | ((with_reducible apply go_ld_agg); rfl; rfl; rfl; rfl))
             | (((with_reducible apply go_index_nat); rfl; rfl; (with_reducible rfl); (intro; rfl); rfl; omega; (intro hlt)))
             | ((with_reducible (show evOp _ (.binOp _ _ _ _ _) _ _ _ _)) ; first | ((with_reducible apply go_cmp); rfl; rfl; rfl; rfl) | ((with_reducible apply go_add); rfl; rfl; rfl; omega) | ((with_reducible apply go_eql_agg); rfl; rfl; rfl; rfl))
             | ((with_reducible (show evOp _ (.call _) _ _ _ _)) ; first | ((with_reducible apply go_len); rfl; rfl) | ((with_reducible apply go_fn_int); rfl; (exact y1); rfl) | ((with_reducible apply go_fn_int); rfl; (exact y2); rfl) | ((with_reducible apply go_fn_int); rfl; (exact y3); rfl))
             | (((with_reducible apply go_st_agg); rfl; rfl; rfl; rfl; rfl; rfl; rfl))
             | (((with_reducible apply go_pick); rfl; rfl; rfl))
             | (((with_reducible apply go_bs1_agg); rfl; rfl; rfl; rfl; rfl; rfl)))
           | ((with_reducible (show evOps _ _ _ _ _ _)); first
             | (with_reducible apply go_nil)
             | ((with_reducible apply go_run); rfl; rfl)
             | ((with_reducible apply go_pass); rfl; rfl; rfl)
             | ((with_reducible apply go_skip); rfl; rfl)
             | (((with_reducible apply go_guard); rfl) <;> (intro h; simp only [h, Bool.not_true, Bool.not_false]; (try with_reducible (refine ⟨rfl, ?_⟩)); try simp only [decide_eq_true_eq, decide_eq_false_iff_not, Bool.not_eq_true', Bool.not_eq_false', Bool.not_true, Bool.not_false] at h; try exact absurd trivial h))
             | ((with_reducible apply go_pre); rfl)
             | (with_reducible apply go_pre_nil)
             | ((with_reducible apply go_suf); rfl)
             | (with_reducible apply go_suf_nil))
           | ((with_reducible (show evG _ _ _ _ _)); first
             | (with_reducible apply go_seq)
             | (with_reducible apply go_region)
             | ((with_reducible apply go_cond_t); rfl; rfl)
             | ((with_reducible apply go_cond_f); rfl; rfl)
             | (((with_reducible apply go_cond); rfl) <;> (intro h; simp only [h]; try simp only [decide_eq_true_eq, decide_eq_false_iff_not, Bool.not_eq_true', Bool.not_eq_false', Bool.not_true, Bool.not_false] at h; try exact absurd trivial h))
             | ((with_reducible apply go_order); kernel_rfl; rfl)
             | (with_reducible apply go_ret)
             | (with_reducible apply go_skipc)
             | (with_reducible apply go_block)
             | (with_reducible apply go_exit))
           | (with_reducible apply go_kseq)
           | (with_reducible apply go_ksuf)
           | (with_reducible apply go_kblock)
           | (with_reducible apply go_kblock_exit)
           | ((with_reducible apply go_kblock_other); rfl)
           | (with_reducible apply go_kseq_exit)
    all_goals try (exfalso; omega)
    all_goals first
      | (refine ⟨by omega, trivial, ?_⟩
         rw [hyes (by first | exact Or.inl (hpt.1 (by assumption)) | exact Or.inr (Or.inl (by omega)) | exact Or.inr (Or.inr ⟨by omega, by omega⟩))]
         exact entails_eq (nx := 32) (k := 0) (ns := []) (ks := [8, 7, 6, 5, 3, 0]) [(1, 1), (0, 0), (2, 2), (3, 3)] rfl (by simp) (by kernel_rfl))
      | (refine ⟨by omega, trivial, ?_⟩
         have hne : ¬ nx = a := fun e => by have := hpt.2 e; simp_all
         rw [hno (by rintro (h | h | h); exact hne h; omega; omega)]
         exact entails_eq (nx := 32) (k := 0) (ns := []) (ks := [8, 7, 6, 5, 3, 0]) [(1, 1), (0, 0), (2, 2), (3, 3)] rfl (by simp) (by kernel_rfl))
      | trace_state
  have e : m = l.length := by omega
  rw [e, wrapT_all]
  have hpf := ptEq_iff (a := wrapS l a) (b := f0)
  have hpa := ptEq_iff (a := wrapS l a) (b := a)
  unfold ptEq at hpf hpa
  clear e hm hlt
  by_cases hlast : j + 1 < H.length
  · have hw := hwj1 hlast
    have h2 := hnj hlast
    have hT1 := hTn hlast
    generalize hnx : H[j + 1] = q at *
    rw [hw] at hpf hpa
    rw [hw]
    have f1 : (decide (q.x = f0.x) && (decide (q.y = f0.y) && true)) = false := by
      rw [Bool.eq_false_iff]; intro h; exact h2.1 (hpf.1 h)
    have f2 : (decide (q.x = a.x) && (decide (q.y = a.y) && true)) = false := by
      rw [Bool.eq_false_iff]; intro h; exact h2.2 (hpa.1 h)
    repeat' first
           | (with_reducible apply go_op)
           | (with_reducible apply go_next)
           | ((with_reducible (show evOp _ _ _ _ _ _)); first
             | ((with_reducible (show evOp _ (.move _) _ _ _ _)) ; first | ((with_reducible apply go_mv_int); rfl; rfl) | ((with_reducible apply go_mv_bool); rfl; rfl) | ((with_reducible apply go_mv_sl); rfl; rfl) | ((with_reducible apply go_mv_os); rfl; rfl))
             | ((with_reducible apply go_as))
             | ((with_reducible (show evOp _ (.load _ _) _ _ _ _)) ; first | ((with_reducible apply go_ld_ptr); rfl; rfl; rfl) | ((with_reducible apply go_ld_agg); rfl; rfl; rfl; rfl))
             | (((with_reducible apply go_index_nat); rfl; rfl; (with_reducible rfl); (intro; rfl); rfl; omega; (intro hlt)))
             | ((with_reducible (show evOp _ (.binOp _ _ _ _ _) _ _ _ _)) ; first | ((with_reducible apply go_cmp); rfl; rfl; rfl; rfl) | ((with_reducible apply go_eql_agg); rfl; rfl; rfl; rfl))
             | (((with_reducible apply go_len); rfl; rfl))
             | (((with_reducible apply go_pick); rfl; rfl; rfl))
             | (((with_reducible apply go_bs1_agg); rfl; rfl; rfl; rfl; rfl; rfl)))
           | ((with_reducible (show evOps _ _ _ _ _ _)); first
             | (with_reducible apply go_nil)
             | ((with_reducible apply go_run); rfl; rfl)
             | ((with_reducible apply go_pass); rfl; rfl; rfl)
             | (((with_reducible apply go_guard); rfl) <;> (intro h; simp only [h, Bool.not_true, Bool.not_false]; (try with_reducible (refine ⟨rfl, ?_⟩)); try simp only [decide_eq_true_eq, decide_eq_false_iff_not, Bool.not_eq_true', Bool.not_eq_false', Bool.not_true, Bool.not_false] at h; try exact absurd trivial h))
             | ((with_reducible apply go_pre); rfl))
           | ((with_reducible (show evG _ _ _ _ _)); first
             | (with_reducible apply go_seq)
             | (with_reducible apply go_region)
             | ((with_reducible apply go_cond_t); rfl; rfl)
             | (((with_reducible apply go_cond); rfl) <;> (intro h; simp only [h]; try simp only [decide_eq_true_eq, decide_eq_false_iff_not, Bool.not_eq_true', Bool.not_eq_false', Bool.not_true, Bool.not_false] at h; try exact absurd trivial h))
             | ((with_reducible apply go_order); kernel_rfl; rfl)
             | (with_reducible apply go_ret)
             | (with_reducible apply go_skipc)
             | (with_reducible apply go_block)
             | (with_reducible apply go_exit))
           | (with_reducible apply go_kseq)
           | (with_reducible apply go_kblock_exit)
           | ((with_reducible apply go_kblock_other); rfl)
           | (with_reducible apply go_kseq_exit)
    all_goals try (exfalso; omega)
    all_goals try (exfalso; rw [f1] at *; contradiction)
    all_goals try (exfalso; rw [f2] at *; contradiction)
    refine go_app_map (f := encPt) (a := q) (l := T) scalPt rfl rfl rfl htl rfl (by kernel_rfl) (by kernel_rfl) (by kernel_rfl) (by omega) rfl ?_
    rw [hT1]
    repeat' first
           | (with_reducible apply go_op)
           | (with_reducible apply go_next)
           | ((with_reducible (show evOp _ _ _ _ _ _)); first
             | (((with_reducible apply go_mv_os); rfl; rfl))
             | ((with_reducible apply go_as)))
           | ((with_reducible (show evOps _ _ _ _ _ _)); first
             | (with_reducible apply go_nil))
           | (with_reducible apply go_kseq)
           | (with_reducible apply go_kblock)
    exact ⟨by omega, trivial, entails_eq (nx := 32) (k := 0) (ns := []) (ks := [5, 3, 0]) [(1, 1), (0, 0)] rfl (by simp) (by kernel_rfl)⟩
  · have hw := hwj2 (by omega)
    have hT1 := hTe (by omega)
    rw [hw]
    have f1 : (decide (f0.x = f0.x) && (decide (f0.y = f0.y) && true)) = true := by simp
    repeat' first
           | (with_reducible apply go_op)
           | (with_reducible apply go_next)
           | ((with_reducible (show evOp _ _ _ _ _ _)); first
             | ((with_reducible (show evOp _ (.move _) _ _ _ _)) ; first | ((with_reducible apply go_mv_int); rfl; rfl) | ((with_reducible apply go_mv_bool); rfl; rfl) | ((with_reducible apply go_mv_sl); rfl; rfl) | ((with_reducible apply go_mv_os); rfl; rfl))
             | ((with_reducible apply go_as))
             | ((with_reducible (show evOp _ (.load _ _) _ _ _ _)) ; first | ((with_reducible apply go_ld_ptr); rfl; rfl; rfl) | ((with_reducible apply go_ld_agg); rfl; rfl; rfl; rfl))
             | (((with_reducible apply go_index_nat); rfl; rfl; (with_reducible rfl); (intro; rfl); rfl; omega; (intro hlt)))
             | ((with_reducible (show evOp _ (.binOp _ _ _ _ _) _ _ _ _)) ; first | ((with_reducible apply go_cmp); rfl; rfl; rfl; rfl) | ((with_reducible apply go_eql_agg); rfl; rfl; rfl; rfl))
             | (((with_reducible apply go_len); rfl; rfl))
             | (((with_reducible apply go_pick); rfl; rfl; rfl)))
           | ((with_reducible (show evOps _ _ _ _ _ _)); first
             | (with_reducible apply go_nil)
             | ((with_reducible apply go_pass); rfl; rfl; rfl)
             | (((with_reducible apply go_guard); rfl) <;> (intro h; simp only [h, Bool.not_true, Bool.not_false]; (try with_reducible (refine ⟨rfl, ?_⟩)); try simp only [decide_eq_true_eq, decide_eq_false_iff_not, Bool.not_eq_true', Bool.not_eq_false', Bool.not_true, Bool.not_false] at h; try exact absurd trivial h))
             | ((with_reducible apply go_pre); rfl))
           | ((with_reducible (show evG _ _ _ _ _)); first
             | (with_reducible apply go_seq)
             | (with_reducible apply go_region)
             | ((with_reducible apply go_cond_t); rfl; rfl)
             | (((with_reducible apply go_cond); rfl) <;> (intro h; simp only [h]; try simp only [decide_eq_true_eq, decide_eq_false_iff_not, Bool.not_eq_true', Bool.not_eq_false', Bool.not_true, Bool.not_false] at h; try exact absurd trivial h))
             | ((with_reducible apply go_order); kernel_rfl; rfl)
             | (with_reducible apply go_ret)
             | (with_reducible apply go_skipc)
             | (with_reducible apply go_block)
             | (with_reducible apply go_exit))
           | (with_reducible apply go_kseq)
           | (with_reducible apply go_kblock_exit)
           | ((with_reducible apply go_kblock_other); rfl)
           | (with_reducible apply go_kseq_exit)
    all_goals try (exfalso; omega)
    all_goals first
      | (exfalso; simp at *; done)
      | exact end_frn (l := T) rfl rfl htl hT1
      | trace_state
end Go.Pv.Geo

open Go Go.Proofs Go.Pv
set_option maxHeartbeats 4000000
set_option maxRecDepth 100000
set_option linter.unusedSimpArgs false
set_option linter.unusedVariables false
namespace Go.Pv.Geo
structure Tri where
  a : Int
  b : Int
  c : Int
  deriving DecidableEq
def encTri (t : Tri) : List D := [.int .i64 t.a, .int .i64 t.b, .int .i64 t.c]
theorem scalTri : ScalF encTri 3 := fun _ => ⟨rfl, rfl⟩
/-- The error of points. -/
def chkE (l : List Pt) : Int := if 64 < l.length then 8 else if (l.any fun p => !ptOK p) = true then 2 else 0
theorem c_Check (l : List Pt) (hl : l.length < 1000000000000) : Contract Try.prog 27 [.sl (l.map encPt)] (.ret (.int .i64 (chkE l))) := by
  refine contract_of mix Try.func27 rfl rfl (by rw [Try.ntmps27]; exact Nat.le_of_ble_eq_true rfl) ?_; rw [Try.results27, Try.ntmps27]; simp only [argsE, Nat.reduceAdd]
  repeat' first
           | (with_reducible apply go_op)
           | (with_reducible apply go_next)
           | ((with_reducible (show evOp _ _ _ _ _ _)); first
             | ((with_reducible (show evOp _ (.move _) _ _ _ _)) ; first | ((with_reducible apply go_mv_int); rfl; rfl) | ((with_reducible apply go_mv_sl); rfl; rfl))
             | ((with_reducible apply go_as))
             | (((with_reducible apply go_cmp); rfl; rfl; rfl; rfl))
             | ((with_reducible (show evOp _ (.call _) _ _ _ _)) ; first | ((with_reducible apply go_len); rfl; rfl) | ((with_reducible apply go_fn_bool); rfl; (exact c_outside l hl); rfl)))
           | ((with_reducible (show evOps _ _ _ _ _ _)); first
             | (with_reducible apply go_nil))
           | ((with_reducible (show evG _ _ _ _ _)); first
             | (with_reducible apply go_seq)
             | (with_reducible apply go_region)
             | (((with_reducible apply go_cond); rfl) <;> (intro h; simp only [h]; try simp only [decide_eq_true_eq, decide_eq_false_iff_not, Bool.not_eq_true', Bool.not_eq_false', Bool.not_true, Bool.not_false] at h; try exact absurd trivial h))
             | (with_reducible apply go_ret)
             | (with_reducible apply go_skipc))
           | (with_reducible apply go_kseq)
           | (with_reducible apply go_kseq_ret)
           | ((with_reducible apply end_int); rfl)
  · unfold chkE; rw [if_pos (by omega)]
  · unfold chkE; rw [if_neg (by omega), if_pos (by assumption)]
  · unfold chkE; rw [if_neg (by omega), if_neg (by simp_all)]
theorem c_rCheck (l : List Pt) (hl : l.length < 1000000000000) : Contract Try.prog 26 [.sl (l.map encPt)] (.ret (.int .i64 (chkE l))) := by
  refine contract_of mix Try.func26 rfl rfl (by rw [Try.ntmps26]; exact Nat.le_of_ble_eq_true rfl) ?_; rw [Try.results26, Try.ntmps26]; simp only [argsE, Nat.reduceAdd]
  repeat' first
           | (with_reducible apply go_op)
           | (with_reducible apply go_next)
           | ((with_reducible (show evOp _ _ _ _ _ _)); first
             | ((with_reducible (show evOp _ (.move _) _ _ _ _)) ; first | ((with_reducible apply go_mv_int); rfl; rfl) | ((with_reducible apply go_mv_sl); rfl; rfl))
             | ((with_reducible apply go_as))
             | (((with_reducible apply go_cmp); rfl; rfl; rfl; rfl))
             | (((with_reducible apply go_len); rfl; rfl)))
           | ((with_reducible (show evOps _ _ _ _ _ _)); first
             | (with_reducible apply go_nil))
           | ((with_reducible (show evG _ _ _ _ _)); first
             | (with_reducible apply go_seq)
             | (with_reducible apply go_region)
             | (((with_reducible apply go_cond); rfl) <;> (intro h; simp only [h]; try simp only [decide_eq_true_eq, decide_eq_false_iff_not, Bool.not_eq_true', Bool.not_eq_false', Bool.not_true, Bool.not_false] at h; try exact absurd trivial h))
             | (with_reducible apply go_ret)
             | (with_reducible apply go_skipc)
             | (with_reducible apply go_block))
           | (with_reducible apply go_kseq)
           | (with_reducible apply go_kseq_ret)
           | ((with_reducible apply end_int); rfl)
  · unfold chkE; rw [if_pos (by omega)]
  refine go_count (l.length) (fun i => ⟨[(3, .int .i64 i), (0, .sl (l.map encPt))], [], 0, 19⟩) (fun i => ∀ j (hj : j < i) (hj' : j < l.length), ptOK l[j] = true) (entails_eq (k := 0) (ns := []) (ks := [3, 0]) [] rfl (by simp) rfl) (by omega) ?_
  intro i hi hC
  by_cases h2 : i < l.length
  · have g := c_good l[i]
    cases hp : ptOK l[i]
    · rw [hp] at g
      repeat' first
           | (with_reducible apply go_op)
           | (with_reducible apply go_next)
           | ((with_reducible (show evOp _ _ _ _ _ _)); first
             | ((with_reducible (show evOp _ (.move _) _ _ _ _)) ; first | ((with_reducible apply go_mv_int); rfl; rfl) | ((with_reducible apply go_mv_sl); rfl; rfl))
             | ((with_reducible apply go_as))
             | (((with_reducible apply go_ld_ptr); rfl; rfl; rfl))
             | (((with_reducible apply go_index_nat); rfl; rfl; (with_reducible rfl); (intro; rfl); rfl; omega; (intro hlt)))
             | (((with_reducible apply go_cmp); rfl; rfl; rfl; rfl))
             | ((with_reducible (show evOp _ (.call _) _ _ _ _)) ; first | ((with_reducible apply go_len); rfl; rfl) | ((with_reducible apply go_fn_bool); rfl; (exact g); rfl))
             | (((with_reducible apply go_not); rfl; rfl)))
           | ((with_reducible (show evOps _ _ _ _ _ _)); first
             | (with_reducible apply go_nil))
           | ((with_reducible (show evG _ _ _ _ _)); first
             | (with_reducible apply go_seq)
             | (with_reducible apply go_region)
             | ((with_reducible apply go_cond_t); rfl; rfl)
             | (((with_reducible apply go_cond); rfl) <;> (intro h; simp only [h]; try simp only [decide_eq_true_eq, decide_eq_false_iff_not, Bool.not_eq_true', Bool.not_eq_false', Bool.not_true, Bool.not_false] at h; try exact absurd trivial h))
             | (with_reducible apply go_ret)
             | (with_reducible apply go_skipc)
             | (with_reducible apply go_block)
             | (with_reducible apply go_exit))
           | (with_reducible apply go_kseq)
           | (with_reducible apply go_kseq_ret)
           | (with_reducible apply go_kblock_ret)
           | (with_reducible apply go_kblock_exit)
           | (with_reducible apply go_kseq_exit)
           | ((with_reducible apply end_int); rfl)
      all_goals first
        | (exfalso; omega)
        | (unfold chkE; rw [if_neg (by omega), if_pos (List.any_eq_true.2 ⟨_, List.getElem_mem h2, by rw [hp]; rfl⟩)])
    · rw [hp] at g
      repeat' first
           | (with_reducible apply go_op)
           | (with_reducible apply go_next)
           | ((with_reducible (show evOp _ _ _ _ _ _)); first
             | ((with_reducible (show evOp _ (.move _) _ _ _ _)) ; first | ((with_reducible apply go_mv_int); rfl; rfl) | ((with_reducible apply go_mv_sl); rfl; rfl))
             | ((with_reducible apply go_as))
             | (((with_reducible apply go_ld_ptr); rfl; rfl; rfl))
             | (((with_reducible apply go_index_nat); rfl; rfl; (with_reducible rfl); (intro; rfl); rfl; omega; (intro hlt)))
             | ((with_reducible (show evOp _ (.binOp _ _ _ _ _) _ _ _ _)) ; first | ((with_reducible apply go_cmp); rfl; rfl; rfl; rfl) | ((with_reducible apply go_add); rfl; rfl; rfl; omega))
             | ((with_reducible (show evOp _ (.call _) _ _ _ _)) ; first | ((with_reducible apply go_len); rfl; rfl) | ((with_reducible apply go_fn_bool); rfl; (exact g); rfl))
             | (((with_reducible apply go_not); rfl; rfl)))
           | ((with_reducible (show evOps _ _ _ _ _ _)); first
             | (with_reducible apply go_nil))
           | ((with_reducible (show evG _ _ _ _ _)); first
             | (with_reducible apply go_seq)
             | (with_reducible apply go_region)
             | ((with_reducible apply go_cond_f); rfl; rfl)
             | (((with_reducible apply go_cond); rfl) <;> (intro h; simp only [h]; try simp only [decide_eq_true_eq, decide_eq_false_iff_not, Bool.not_eq_true', Bool.not_eq_false', Bool.not_true, Bool.not_false] at h; try exact absurd trivial h))
             | (with_reducible apply go_ret)
             | (with_reducible apply go_skipc)
             | (with_reducible apply go_block)
             | (with_reducible apply go_exit))
           | (with_reducible apply go_kseq)
           | (with_reducible apply go_kblock)
           | (with_reducible apply go_kblock_exit)
           | (with_reducible apply go_kseq_exit)
           | ((with_reducible apply end_int); rfl)
      all_goals first
        | (exfalso; omega)
        | (refine ⟨h2, fun j hj hj' => ?_, entails_eq (k := 0) (ns := []) (ks := [3, 0]) [] rfl (by simp) rfl⟩
           rcases Nat.lt_succ_iff_lt_or_eq.1 hj with h' | rfl
           · exact hC j h' hj'
           · exact hp)
  · repeat' first
           | (with_reducible apply go_op)
           | (with_reducible apply go_next)
           | ((with_reducible (show evOp _ _ _ _ _ _)); first
             | ((with_reducible (show evOp _ (.move _) _ _ _ _)) ; first | ((with_reducible apply go_mv_int); rfl; rfl) | ((with_reducible apply go_mv_sl); rfl; rfl))
             | ((with_reducible apply go_as))
             | (((with_reducible apply go_ld_ptr); rfl; rfl; rfl))
             | (((with_reducible apply go_index_nat); rfl; rfl; (with_reducible rfl); (intro; rfl); rfl; omega; (intro hlt)))
             | (((with_reducible apply go_cmp); rfl; rfl; rfl; rfl))
             | (((with_reducible apply go_len); rfl; rfl)))
           | ((with_reducible (show evOps _ _ _ _ _ _)); first
             | (with_reducible apply go_nil))
           | ((with_reducible (show evG _ _ _ _ _)); first
             | (with_reducible apply go_seq)
             | (with_reducible apply go_region)
             | (((with_reducible apply go_cond); rfl) <;> (intro h; simp only [h]; try simp only [decide_eq_true_eq, decide_eq_false_iff_not, Bool.not_eq_true', Bool.not_eq_false', Bool.not_true, Bool.not_false] at h; try exact absurd trivial h))
             | (with_reducible apply go_ret)
             | (with_reducible apply go_skipc)
             | (with_reducible apply go_block)
             | (with_reducible apply go_exit))
           | (with_reducible apply go_kseq)
           | (with_reducible apply go_kblock_exit)
           | (with_reducible apply go_kseq_exit)
           | ((with_reducible apply end_int); rfl)
    all_goals first
      | (exfalso; omega)
      | (unfold chkE
         rw [if_neg (by omega), if_neg]
         simp only [List.any_eq_true, not_exists, not_and]
         intro x hx
         obtain ⟨j, hj, rfl⟩ := List.mem_iff_getElem.1 hx
         rw [hC j (by omega) hj]; simp)
theorem chk_ok {l : List Pt} (h : chkE l = 0) : l.length ≤ 64 ∧ ∀ p ∈ l, ptOK p = true := by
  unfold chkE at h
  split at h
  · cases h
  · split at h
    · cases h
    · rename_i h1 h2
      refine ⟨by omega, fun p hp => ?_⟩
      simp only [List.any_eq_true, not_exists, not_and] at h2
      simpa using h2 p hp
/-- Has a list with n elements the numbers of a triangle? -/
def hasE (n : Int) (t : Tri) : Bool := decide ((0 ≤ t.a ∧ t.a < n) ∧ (0 ≤ t.b ∧ t.b < n) ∧ 0 ≤ t.c ∧ t.c < n)
theorem has_bd {n : Int} {t : Tri} (h : hasE n t = true) : (0 ≤ t.a ∧ t.a < n) ∧ (0 ≤ t.b ∧ t.b < n) ∧ 0 ≤ t.c ∧ t.c < n := of_decide_eq_true h
theorem c_numbered (t : Tri) (n : Int) : Contract Try.prog 86 [.agg (encTri t), .int .i64 n] (.ret (.bool (hasE n t))) := by
  refine contract_of mix Try.func86 rfl rfl (by rw [Try.ntmps86]; exact Nat.le_of_ble_eq_true rfl) ?_; rw [Try.results86, Try.ntmps86]; simp only [argsE, Nat.reduceAdd]
  repeat' first
           | (with_reducible apply go_op)
           | (with_reducible apply go_next)
           | ((with_reducible (show evOp _ _ _ _ _ _)); first
             | ((with_reducible (show evOp _ (.move _) _ _ _ _)) ; first | ((with_reducible apply go_mv_int); rfl; rfl) | ((with_reducible apply go_mv_bool); rfl; rfl))
             | ((with_reducible apply go_as))
             | (((with_reducible apply go_load_own); rfl; rfl; rfl; rfl))
             | (((with_reducible apply go_fieldAddr_own); rfl; rfl; rfl))
             | (((with_reducible apply go_cmp); rfl; rfl; rfl; rfl))
             | ((with_reducible (show evOp _ (.call _) _ _ _ _)) ; first | ((with_reducible apply go_min3); rfl; rfl; rfl; rfl) | ((with_reducible apply go_max3); rfl; rfl; rfl; rfl))
             | (((with_reducible apply go_pick); rfl; rfl; rfl))
             | (((with_reducible apply go_bx_agg); rfl; rfl; (exact Nat.le_of_ble_eq_true rfl); rfl; rfl)))
           | ((with_reducible (show evOps _ _ _ _ _ _)); first
             | (with_reducible apply go_nil)
             | ((with_reducible apply go_run); rfl; rfl)
             | ((with_reducible apply go_pass); rfl; rfl; rfl)
             | (((with_reducible apply go_guard); rfl) <;> (intro h; simp only [h, Bool.not_true, Bool.not_false]; (try with_reducible (refine ⟨rfl, ?_⟩)); try simp only [decide_eq_true_eq, decide_eq_false_iff_not, Bool.not_eq_true', Bool.not_eq_false', Bool.not_true, Bool.not_false] at h; try exact absurd trivial h)))
           | ((with_reducible (show evG _ _ _ _ _)); first
             | (with_reducible apply go_seq)
             | (with_reducible apply go_region)
             | (with_reducible apply go_ret))
           | (with_reducible apply go_kseq)
           | ((with_reducible apply end_bool); rfl)
  all_goals (unfold hasE; first | exact (decide_eq_true (by omega)).symm | exact (decide_eq_false (by omega)).symm | (exact decide_eq_decide.2 (by omega)) | trace_state)
theorem c_has (t : Tri) (n : Int) (hn : 0 ≤ n ∧ n < 1000000000000) : Contract Try.prog 88 [.int .i64 n, .agg (encTri t)] (.ret (.bool (hasE n t))) := by
  refine contract_of mix Try.func88 rfl rfl (by rw [Try.ntmps88]; exact Nat.le_of_ble_eq_true rfl) ?_; rw [Try.results88, Try.ntmps88]; simp only [argsE, Nat.reduceAdd]
  repeat' first
           | (with_reducible apply go_op)
           | (with_reducible apply go_next)
           | ((with_reducible (show evOp _ _ _ _ _ _)); first
             | ((with_reducible (show evOp _ (.move _) _ _ _ _)) ; first | ((with_reducible apply go_mv_int); rfl; rfl) | ((with_reducible apply go_mv_bool); rfl; rfl))
             | ((with_reducible apply go_as))
             | (((with_reducible apply go_load_own); rfl; rfl; rfl; rfl))
             | (((with_reducible apply go_fieldAddr_own); rfl; rfl; rfl))
             | (((with_reducible apply go_sub); rfl; rfl; rfl; omega))
             | (((with_reducible apply go_fn_bool); rfl; (exact c_within _ _ _); rfl))
             | (((with_reducible apply go_pick); rfl; rfl; rfl))
             | (((with_reducible apply go_bx_agg); rfl; rfl; (exact Nat.le_of_ble_eq_true rfl); rfl; rfl)))
           | ((with_reducible (show evOps _ _ _ _ _ _)); first
             | (with_reducible apply go_nil)
             | ((with_reducible apply go_run); rfl; rfl)
             | ((with_reducible apply go_pass); rfl; rfl; rfl)
             | (((with_reducible apply go_guard); rfl) <;> (intro h; simp only [h, Bool.not_true, Bool.not_false]; (try with_reducible (refine ⟨rfl, ?_⟩)); try simp only [decide_eq_true_eq, decide_eq_false_iff_not, Bool.not_eq_true', Bool.not_eq_false', Bool.not_true, Bool.not_false] at h; try exact absurd trivial h)))
           | ((with_reducible (show evG _ _ _ _ _)); first
             | (with_reducible apply go_seq)
             | (with_reducible apply go_region)
             | (with_reducible apply go_ret))
           | (with_reducible apply go_kseq)
           | ((with_reducible apply end_bool); rfl)
  all_goals (unfold hasE; first | exact (decide_eq_true (by omega)).symm | exact (decide_eq_false (by omega)).symm | (exact decide_eq_decide.2 (by omega)) | trace_state)
end Go.Pv.Geo

open Go Go.Proofs Go.Pv
set_option maxHeartbeats 4000000
set_option maxRecDepth 100000
set_option linter.unusedSimpArgs false
set_option linter.unusedVariables false
namespace Go.Pv.Geo
/-- The point with a number. -/
def ptI (l : List Pt) (n : Int) : Pt := l.getD n.toNat ⟨0, 0⟩
theorem ptI_get {l : List Pt} {n : Int} (h : n.toNat < l.length) : l[n.toNat] = ptI l n := by simp [ptI, List.getD_eq_getElem?_getD, h]
theorem ptI_mem {l : List Pt} {n : Int} (h : 0 ≤ n ∧ n < l.length) : ptI l n ∈ l := by
  rw [← ptI_get (by omega)]; exact List.getElem_mem _
/-- The error of a triangle. -/
def badE (l : List Pt) (t : Tri) : Int := if hasE l.length t = false then 6 else if crossE (ptI l t.a) (ptI l t.b) (ptI l t.c) ≤ 0 then 10 else 0
def badL (l : List Pt) (ts : List Tri) : Int := ((ts.find? fun t => decide (badE l t ≠ 0)).map (badE l)).getD 0
def inTri (l : List Pt) (p : Pt) (t : Tri) : Bool := decide (0 ≤ crossE (ptI l t.a) (ptI l t.b) p ∧ 0 ≤ crossE (ptI l t.b) (ptI l t.c) p ∧ 0 ≤ crossE (ptI l t.c) (ptI l t.a) p)
def locE (l : List Pt) (ts : List Tri) (p : Pt) : Int × Int :=
  if chkE l ≠ 0 then (0, chkE l) else if 128 < ts.length then (0, 8) else if badL l ts ≠ 0 then (0, badL l ts) else if ptOK p = false then (0, 2) else
    if idxOf (inTri l p) ts = -1 then (0, 11) else (idxOf (inTri l p) ts, 0)
theorem badL_some {l : List Pt} {ts : List Tri} {i : Nat} (hi : i < ts.length) (h : badE l ts[i] ≠ 0) (hb : ∀ j (hj : j < i) (hj' : j < ts.length), badE l ts[j] = 0) : badL l ts = badE l ts[i] := by
  have : ts.find? (fun t => decide (badE l t ≠ 0)) = some ts[i] := by
    rw [List.find?_eq_some_iff_getElem]
    exact ⟨by simpa using h, i, hi, rfl, fun j hj => by simpa using hb j hj (by omega)⟩
  rw [badL, this]; rfl
theorem badL_none {l : List Pt} {ts : List Tri} (hb : ∀ j (hj : j < ts.length), badE l ts[j] = 0) : badL l ts = 0 := by
  have : ts.find? (fun t => decide (badE l t ≠ 0)) = none := by
    rw [List.find?_eq_none]
    intro t ht
    obtain ⟨j, hj, rfl⟩ := List.mem_iff_getElem.1 ht
    simpa using hb j hj
  rw [badL, this]; rfl
theorem bad_ok {l : List Pt} {t : Tri} (h : badE l t = 0) : hasE l.length t = true ∧ 0 < crossE (ptI l t.a) (ptI l t.b) (ptI l t.c) := by
  unfold badE at h
  split at h
  · cases h
  · split at h
    · cases h
    · rename_i h1 h2; exact ⟨by simpa using h1, by omega⟩
theorem idx_none {l : List Pt} {p : Pt} {ts : List Tri} (h : ∀ j (hj : j < ts.length), inTri l p ts[j] = false) : idxOf (inTri l p) ts = -1 :=
  idxOf_none fun x hx => by obtain ⟨j, hj, rfl⟩ := List.mem_iff_getElem.1 hx; exact h j hj

theorem c_Locate (l : List Pt) (hl : l.length < 1000000000000) (ts : List Tri) (ht : ts.length < 1000000000000) (p : Pt) :
    Contract Try.prog 42 [.sl (l.map encPt), .sl (ts.map encTri), .agg (encPt p)] (.ret (.tup [.int .i64 (locE l ts p).1, .int .i64 (locE l ts p).2])) := by
  have hC0 := c_Check l hl
  by_cases hz : chkE l = 0
  rotate_left
  · have he : locE l ts p = (0, chkE l) := by simp [locE, hz]
    rw [he]
    refine contract_of mix Try.func42 rfl rfl (by rw [Try.ntmps42]; exact Nat.le_of_ble_eq_true rfl) ?_; rw [Try.results42, Try.ntmps42]; simp only [argsE, Nat.reduceAdd]
    repeat' first
           | (with_reducible apply go_op)
           | (with_reducible apply go_next)
           | ((with_reducible (show evOp _ _ _ _ _ _)); first
             | ((with_reducible (show evOp _ (.move _) _ _ _ _)) ; first | ((with_reducible apply go_mv_int); rfl; rfl) | ((with_reducible apply go_mv_sl); rfl; rfl))
             | ((with_reducible apply go_as))
             | (((with_reducible apply go_cmp); rfl; rfl; rfl; rfl))
             | ((with_reducible (show evOp _ (.call _) _ _ _ _)) ; first | ((with_reducible apply go_len); rfl; rfl) | ((with_reducible apply go_fn_int); rfl; (exact hC0); rfl))
             | (((with_reducible apply go_bx_agg); rfl; rfl; (exact Nat.le_of_ble_eq_true rfl); rfl; rfl)))
           | ((with_reducible (show evOps _ _ _ _ _ _)); first
             | (with_reducible apply go_nil))
           | ((with_reducible (show evG _ _ _ _ _)); first
             | (with_reducible apply go_seq)
             | (with_reducible apply go_region)
             | (((with_reducible apply go_cond); rfl) <;> (intro h; simp only [h]; try simp only [decide_eq_true_eq, decide_eq_false_iff_not, Bool.not_eq_true', Bool.not_eq_false', Bool.not_true, Bool.not_false] at h; try exact absurd trivial h))
             | (with_reducible apply go_ret)
             | (with_reducible apply go_skipc)
             | (with_reducible apply go_block))
           | (with_reducible apply go_kseq)
           | (with_reducible apply go_kseq_ret)
           | ((with_reducible apply end_t2); rfl; rfl; rfl; rfl)
    all_goals first | rfl | (exfalso; omega)
  obtain ⟨h64, hok⟩ := chk_ok hz
  rw [hz] at hC0
  by_cases hts : 128 < ts.length
  · have he : locE l ts p = (0, 8) := by simp [locE, hz, hts]
    rw [he]
    refine contract_of mix Try.func42 rfl rfl (by rw [Try.ntmps42]; exact Nat.le_of_ble_eq_true rfl) ?_; rw [Try.results42, Try.ntmps42]; simp only [argsE, Nat.reduceAdd]
    repeat' first
           | (with_reducible apply go_op)
           | (with_reducible apply go_next)
           | ((with_reducible (show evOp _ _ _ _ _ _)); first
             | ((with_reducible (show evOp _ (.move _) _ _ _ _)) ; first | ((with_reducible apply go_mv_int); rfl; rfl) | ((with_reducible apply go_mv_sl); rfl; rfl))
             | ((with_reducible apply go_as))
             | (((with_reducible apply go_cmp); rfl; rfl; rfl; rfl))
             | ((with_reducible (show evOp _ (.call _) _ _ _ _)) ; first | ((with_reducible apply go_len); rfl; rfl) | ((with_reducible apply go_fn_int); rfl; (exact hC0); rfl))
             | (((with_reducible apply go_bx_agg); rfl; rfl; (exact Nat.le_of_ble_eq_true rfl); rfl; rfl)))
           | ((with_reducible (show evOps _ _ _ _ _ _)); first
             | (with_reducible apply go_nil))
           | ((with_reducible (show evG _ _ _ _ _)); first
             | (with_reducible apply go_seq)
             | (with_reducible apply go_region)
             | ((with_reducible apply go_cond_f); rfl; rfl)
             | (((with_reducible apply go_cond); rfl) <;> (intro h; simp only [h]; try simp only [decide_eq_true_eq, decide_eq_false_iff_not, Bool.not_eq_true', Bool.not_eq_false', Bool.not_true, Bool.not_false] at h; try exact absurd trivial h))
             | (with_reducible apply go_ret)
             | (with_reducible apply go_skipc)
             | (with_reducible apply go_block))
           | (with_reducible apply go_kseq)
           | (with_reducible apply go_kseq_ret)
           | ((with_reducible apply end_t2); rfl; rfl; rfl; rfl)
    all_goals first | rfl | (exfalso; omega) | trace_state
  have hbad : badL l ts ≠ 0 → locE l ts p = (0, badL l ts) := fun h => by simp [locE, hz, hts, h]
  have hpo : badL l ts = 0 → ptOK p = false → locE l ts p = (0, 2) := fun h h' => by simp [locE, hz, hts, h, h']
  have hin : badL l ts = 0 → ptOK p = true → locE l ts p = if idxOf (inTri l p) ts = -1 then (0, 11) else (idxOf (inTri l p) ts, 0) := fun h h' => by simp [locE, hz, hts, h, h']
  have hout := c_outside_1 p
  refine contract_of mix Try.func42 rfl rfl (by rw [Try.ntmps42]; exact Nat.le_of_ble_eq_true rfl) ?_; rw [Try.results42, Try.ntmps42]; simp only [argsE, Nat.reduceAdd]
  repeat' first
           | (with_reducible apply go_op)
           | (with_reducible apply go_next)
           | ((with_reducible (show evOp _ _ _ _ _ _)); first
             | ((with_reducible (show evOp _ (.move _) _ _ _ _)) ; first | ((with_reducible apply go_mv_int); rfl; rfl) | ((with_reducible apply go_mv_sl); rfl; rfl))
             | ((with_reducible apply go_as))
             | (((with_reducible apply go_cmp); rfl; rfl; rfl; rfl))
             | ((with_reducible (show evOp _ (.call _) _ _ _ _)) ; first | ((with_reducible apply go_len); rfl; rfl) | ((with_reducible apply go_fn_int); rfl; (exact hC0); rfl))
             | (((with_reducible apply go_bx_agg); rfl; rfl; (exact Nat.le_of_ble_eq_true rfl); rfl; rfl)))
           | ((with_reducible (show evOps _ _ _ _ _ _)); first
             | (with_reducible apply go_nil))
           | ((with_reducible (show evG _ _ _ _ _)); first
             | (with_reducible apply go_seq)
             | (with_reducible apply go_region)
             | ((with_reducible apply go_cond_f); rfl; rfl)
             | (((with_reducible apply go_cond); rfl) <;> (intro h; simp only [h]; try simp only [decide_eq_true_eq, decide_eq_false_iff_not, Bool.not_eq_true', Bool.not_eq_false', Bool.not_true, Bool.not_false] at h; try exact absurd trivial h))
             | (with_reducible apply go_ret)
             | (with_reducible apply go_skipc)
             | (with_reducible apply go_block))
           | (with_reducible apply go_kseq)
           | (with_reducible apply go_kseq_ret)
           | ((with_reducible apply end_t2); rfl; rfl; rfl; rfl)
  all_goals try (exfalso; omega)
  refine go_count ts.length (fun i => ⟨[(26, .int .i64 i), (25, .int .i64 ts.length), (24, .sl (ts.map encTri)), (5, .op 0 0 0), (0, .sl (l.map encPt)), (1, .sl (ts.map encTri))], [(0, ⟨2, true, [encPt p]⟩)], 32, 99⟩) (fun i => ∀ j (hj : j < i) (hj' : j < ts.length), badE l ts[j] = 0)
    (entails_eq (nx := 32) (k := 0) (ns := []) (ks := [26, 25, 24, 5, 0, 1]) [(0, 0)] rfl (by simp) (by kernel_rfl)) (by omega) ?_
  intro i hi hC
  by_cases h2 : i < ts.length
  · have hnum := c_numbered ts[i] l.length
    cases hh : hasE l.length ts[i]
    · rw [hh] at hnum
      have hb : badE l ts[i] = 6 := by simp [badE, hh]
      repeat' first
           | (with_reducible apply go_op)
           | (with_reducible apply go_next)
           | ((with_reducible (show evOp _ _ _ _ _ _)); first
             | ((with_reducible (show evOp _ (.move _) _ _ _ _)) ; first | ((with_reducible apply go_mv_int); rfl; rfl) | ((with_reducible apply go_mv_sl); rfl; rfl))
             | ((with_reducible apply go_as))
             | ((with_reducible (show evOp _ (.load _ _) _ _ _ _)) ; first | ((with_reducible apply go_ld_ptr); rfl; rfl; rfl) | ((with_reducible apply go_ld_agg); rfl; rfl; rfl; rfl))
             | (((with_reducible apply go_index_nat); rfl; rfl; (with_reducible rfl); (intro; rfl); rfl; omega; (intro hlt)))
             | (((with_reducible apply go_cmp); rfl; rfl; rfl; rfl))
             | ((with_reducible (show evOp _ (.call _) _ _ _ _)) ; first | ((with_reducible apply go_len); rfl; rfl) | ((with_reducible apply go_fn_bool); rfl; (exact hnum); rfl))
             | (((with_reducible apply go_st_agg); rfl; rfl; rfl; rfl; rfl; rfl; rfl))
             | (((with_reducible apply go_not); rfl; rfl))
             | (((with_reducible apply go_alloc); rfl; rfl; rfl))
             | (((with_reducible apply go_bs1_agg); rfl; rfl; rfl; rfl; rfl; rfl)))
           | ((with_reducible (show evOps _ _ _ _ _ _)); first
             | (with_reducible apply go_nil))
           | ((with_reducible (show evG _ _ _ _ _)); first
             | (with_reducible apply go_seq)
             | (with_reducible apply go_region)
             | ((with_reducible apply go_cond_t); rfl; rfl)
             | (((with_reducible apply go_cond); rfl) <;> (intro h; simp only [h]; try simp only [decide_eq_true_eq, decide_eq_false_iff_not, Bool.not_eq_true', Bool.not_eq_false', Bool.not_true, Bool.not_false] at h; try exact absurd trivial h))
             | (with_reducible apply go_ret)
             | (with_reducible apply go_skipc)
             | (with_reducible apply go_block)
             | (with_reducible apply go_exit))
           | (with_reducible apply go_kseq)
           | (with_reducible apply go_kseq_ret)
           | (with_reducible apply go_kblock_ret)
           | (with_reducible apply go_kblock_exit)
           | (with_reducible apply go_kseq_exit)
           | ((with_reducible apply end_t2); rfl; rfl; rfl; rfl)
      all_goals first
        | (exfalso; omega)
        | (rw [hbad (by rw [badL_some h2 (by omega) hC]; omega), badL_some h2 (by omega) hC, hb]; rfl)
    · rw [hh] at hnum
      obtain ⟨q1, q2, q3⟩ := has_bd hh
      have hcr := c_cross (l[ts[i].a.toNat]'(by omega)) (l[ts[i].b.toNat]'(by omega)) (l[ts[i].c.toNat]'(by omega)) (hok _ (List.getElem_mem _)) (hok _ (List.getElem_mem _)) (hok _ (List.getElem_mem _))
      have hbe : badE l ts[i] = if crossE (l[ts[i].a.toNat]'(by omega)) (l[ts[i].b.toNat]'(by omega)) (l[ts[i].c.toNat]'(by omega)) ≤ 0 then 10 else 0 := by
        simp only [badE, hh, ptI_get]; rfl
      repeat' first
           | (with_reducible apply go_op)
           | (with_reducible apply go_next)
           | ((with_reducible (show evOp _ _ _ _ _ _)); first
             | ((with_reducible (show evOp _ (.move _) _ _ _ _)) ; first | ((with_reducible apply go_mv_int); rfl; rfl) | ((with_reducible apply go_mv_sl); rfl; rfl))
             | ((with_reducible apply go_as))
             | ((with_reducible (show evOp _ (.load _ _) _ _ _ _)) ; first | ((with_reducible apply go_ld_ptr); rfl; rfl; rfl) | ((with_reducible apply go_ld_agg); rfl; rfl; rfl; rfl) | ((with_reducible apply go_load_own); rfl; rfl; rfl; rfl))
             | (((with_reducible apply go_fieldAddr_own); rfl; rfl; rfl))
             | ((with_reducible (show evOp _ (.indexAddr _ _ _) _ _ _ _)) ; first | ((with_reducible apply go_index_nat); rfl; rfl; (with_reducible rfl); (intro; rfl); rfl; omega; (intro hlt)) | ((with_reducible apply go_index); rfl; rfl; (intro; rfl); rfl; omega; intro hlt))
             | ((with_reducible (show evOp _ (.binOp _ _ _ _ _) _ _ _ _)) ; first | ((with_reducible apply go_cmp); rfl; rfl; rfl; rfl) | ((with_reducible apply go_add); rfl; rfl; rfl; omega))
             | ((with_reducible (show evOp _ (.call _) _ _ _ _)) ; first | ((with_reducible apply go_len); rfl; rfl) | ((with_reducible apply go_fn_bool); rfl; (exact hnum); rfl) | ((with_reducible apply go_fn_int); rfl; (exact hcr); rfl))
             | (((with_reducible apply go_st_agg); rfl; rfl; rfl; rfl; rfl; rfl; rfl))
             | (((with_reducible apply go_not); rfl; rfl))
             | (((with_reducible apply go_alloc); rfl; rfl; rfl))
             | (((with_reducible apply go_bs1_agg); rfl; rfl; rfl; rfl; rfl; rfl)))
           | ((with_reducible (show evOps _ _ _ _ _ _)); first
             | (with_reducible apply go_nil)
             | ((with_reducible apply go_pre); rfl)
             | (with_reducible apply go_pre_nil)
             | ((with_reducible apply go_suf); rfl)
             | (with_reducible apply go_suf_nil))
           | ((with_reducible (show evG _ _ _ _ _)); first
             | (with_reducible apply go_seq)
             | (with_reducible apply go_region)
             | ((with_reducible apply go_cond_f); rfl; rfl)
             | (((with_reducible apply go_cond); rfl) <;> (intro h; simp only [h]; try simp only [decide_eq_true_eq, decide_eq_false_iff_not, Bool.not_eq_true', Bool.not_eq_false', Bool.not_true, Bool.not_false] at h; try exact absurd trivial h))
             | ((with_reducible apply go_order); kernel_rfl; rfl)
             | (with_reducible apply go_ret)
             | (with_reducible apply go_skipc)
             | (with_reducible apply go_block)
             | (with_reducible apply go_exit))
           | (with_reducible apply go_kseq)
           | (with_reducible apply go_ksuf)
           | (with_reducible apply go_kseq_ret)
           | (with_reducible apply go_kblock)
           | (with_reducible apply go_kblock_ret)
           | (with_reducible apply go_kblock_exit)
           | (with_reducible apply go_kseq_exit)
           | ((with_reducible apply end_t2); rfl; rfl; rfl; rfl)
      all_goals first
        | (exfalso; omega)
        | (rw [if_pos (by assumption)] at hbe
           rw [hbad (by rw [badL_some h2 (by omega) hC]; omega), badL_some h2 (by omega) hC, hbe]; rfl)
        | (rw [if_neg (by assumption)] at hbe
           refine ⟨h2, fun j hj hj' => ?_, entails_eq (nx := 32) (k := 0) (ns := []) (ks := [26, 25, 24, 5, 0, 1]) [(0, 0)] rfl (by simp) (by kernel_rfl)⟩
           rcases Nat.lt_succ_iff_lt_or_eq.1 hj with h' | rfl
           · exact hC j h' hj'
           · exact hbe)
  · have hb0 : badL l ts = 0 := badL_none fun j hj => hC j (by omega) hj
    have hC' : ∀ j (hj : j < ts.length), badE l ts[j] = 0 := fun j hj => hC j (by omega) hj
    cases hp : ptOK p
    · rw [hp] at hout
      rw [hpo hb0 hp]
      repeat' first
           | (with_reducible apply go_op)
           | (with_reducible apply go_next)
           | ((with_reducible (show evOp _ _ _ _ _ _)); first
             | ((with_reducible (show evOp _ (.move _) _ _ _ _)) ; first | ((with_reducible apply go_mv_int); rfl; rfl) | ((with_reducible apply go_mv_sl); rfl; rfl))
             | ((with_reducible apply go_as))
             | ((with_reducible (show evOp _ (.load _ _) _ _ _ _)) ; first | ((with_reducible apply go_ld_ptr); rfl; rfl; rfl) | ((with_reducible apply go_ld_agg); rfl; rfl; rfl; rfl))
             | (((with_reducible apply go_index_nat); rfl; rfl; (with_reducible rfl); (intro; rfl); rfl; omega; (intro hlt)))
             | (((with_reducible apply go_cmp); rfl; rfl; rfl; rfl))
             | ((with_reducible (show evOp _ (.call _) _ _ _ _)) ; first | ((with_reducible apply go_len); rfl; rfl) | ((with_reducible apply go_fn_bool); (exact purL_os rfl (by simp) rfl); (exact hout); rfl))
             | (((with_reducible apply go_st_agg); rfl; rfl; rfl; rfl; rfl; rfl; rfl))
             | (((with_reducible apply go_alloc); rfl; rfl; rfl))
             | (((with_reducible apply go_bs1_agg); rfl; rfl; rfl; rfl; rfl; rfl)))
           | ((with_reducible (show evOps _ _ _ _ _ _)); first
             | (with_reducible apply go_nil))
           | ((with_reducible (show evG _ _ _ _ _)); first
             | (with_reducible apply go_seq)
             | (with_reducible apply go_region)
             | ((with_reducible apply go_cond_t); rfl; rfl)
             | (((with_reducible apply go_cond); rfl) <;> (intro h; simp only [h]; try simp only [decide_eq_true_eq, decide_eq_false_iff_not, Bool.not_eq_true', Bool.not_eq_false', Bool.not_true, Bool.not_false] at h; try exact absurd trivial h))
             | (with_reducible apply go_ret)
             | (with_reducible apply go_skipc)
             | (with_reducible apply go_block)
             | (with_reducible apply go_exit))
           | (with_reducible apply go_kseq)
           | (with_reducible apply go_kseq_ret)
           | (with_reducible apply go_kblock_exit)
           | (with_reducible apply go_kseq_exit)
           | ((with_reducible apply end_t2); rfl; rfl; rfl; rfl)
      all_goals first | (exfalso; omega) | rfl
    · rw [hp] at hout
      rw [hin hb0 hp]
      clear hbad hpo hin
      repeat' first
           | (with_reducible apply go_op)
           | (with_reducible apply go_next)
           | ((with_reducible (show evOp _ _ _ _ _ _)); first
             | ((with_reducible (show evOp _ (.move _) _ _ _ _)) ; first | ((with_reducible apply go_mv_int); rfl; rfl) | ((with_reducible apply go_mv_sl); rfl; rfl))
             | ((with_reducible (show evOp _ (.load _ _) _ _ _ _)) ; first | ((with_reducible apply go_ld_ptr); rfl; rfl; rfl) | ((with_reducible apply go_ld_agg); rfl; rfl; rfl; rfl))
             | (((with_reducible apply go_index_nat); rfl; rfl; (with_reducible rfl); (intro; rfl); rfl; omega; (intro hlt)))
             | (((with_reducible apply go_cmp); rfl; rfl; rfl; rfl))
             | ((with_reducible (show evOp _ (.call _) _ _ _ _)) ; first | ((with_reducible apply go_len); rfl; rfl) | ((with_reducible apply go_fn_bool); (exact purL_os rfl (by simp) rfl); (exact hout); rfl))
             | (((with_reducible apply go_st_agg); rfl; rfl; rfl; rfl; rfl; rfl; rfl))
             | (((with_reducible apply go_alloc); rfl; rfl; rfl))
             | (((with_reducible apply go_bs1_agg); rfl; rfl; rfl; rfl; rfl; rfl)))
           | ((with_reducible (show evOps _ _ _ _ _ _)); first
             | (with_reducible apply go_nil))
           | ((with_reducible (show evG _ _ _ _ _)); first
             | (with_reducible apply go_seq)
             | (with_reducible apply go_region)
             | ((with_reducible apply go_cond_f); rfl; rfl)
             | (((with_reducible apply go_cond); rfl) <;> (intro h; simp only [h]; try simp only [decide_eq_true_eq, decide_eq_false_iff_not, Bool.not_eq_true', Bool.not_eq_false', Bool.not_true, Bool.not_false] at h; try exact absurd trivial h))
             | (with_reducible apply go_skipc)
             | (with_reducible apply go_block)
             | (with_reducible apply go_exit))
           | (with_reducible apply go_kseq)
           | (with_reducible apply go_kblock_exit)
           | (with_reducible apply go_kseq_exit)
      all_goals try (exfalso; omega)
      refine go_count ts.length (fun i => ⟨[(58, .int .i64 i), (57, .int .i64 ts.length), (56, .sl (ts.map encTri)), (5, .op 0 0 0), (0, .sl (l.map encPt))], [(0, ⟨2, true, [encPt p]⟩)], 32, 99⟩) (fun i => ∀ j (hj : j < i) (hj' : j < ts.length), inTri l p ts[j] = false)
        (entails_eq (nx := 32) (k := 0) (ns := []) (ks := [58, 57, 56, 5, 0]) [(0, 0)] rfl (by simp) (by kernel_rfl)) (by omega) ?_
      clear hC hi h2
      intro i hi hC
      by_cases h2 : i < ts.length
      · obtain ⟨q1, q2, q3⟩ := has_bd (bad_ok (hC' i h2)).1
        have o1 : ptOK (l[ts[i].a.toNat]'(by omega)) = true := hok _ (List.getElem_mem _)
        have o2 : ptOK (l[ts[i].b.toNat]'(by omega)) = true := hok _ (List.getElem_mem _)
        have o3 : ptOK (l[ts[i].c.toNat]'(by omega)) = true := hok _ (List.getElem_mem _)
        have x1 := c_cross _ _ p o1 o2 hp
        have x2 := c_cross _ _ p o2 o3 hp
        have x3 := c_cross _ _ p o3 o1 hp
        have hbe : inTri l p ts[i] = decide (0 ≤ crossE (l[ts[i].a.toNat]'(by omega)) (l[ts[i].b.toNat]'(by omega)) p ∧ 0 ≤ crossE (l[ts[i].b.toNat]'(by omega)) (l[ts[i].c.toNat]'(by omega)) p ∧ 0 ≤ crossE (l[ts[i].c.toNat]'(by omega)) (l[ts[i].a.toNat]'(by omega)) p) := by
          simp only [inTri, ptI_get]
        repeat' first
           | (with_reducible apply go_op)
           | (with_reducible apply go_next)
           | ((with_reducible (show evOp _ _ _ _ _ _)); first
             | ((with_reducible (show evOp _ (.move _) _ _ _ _)) ; first | ((with_reducible apply go_mv_int); rfl; rfl) | ((with_reducible apply go_mv_bool); rfl; rfl) | ((with_reducible apply go_mv_sl); rfl; rfl))
             | ((with_reducible apply go_as))
             | ((with_reducible (show evOp _ (.load _ _) _ _ _ _)) ; first | ((with_reducible apply go_ld_ptr); rfl; rfl; rfl) | ((with_reducible apply go_ld_agg); rfl; rfl; rfl; rfl) | ((with_reducible apply go_load_own); rfl; rfl; rfl; rfl))
             | (((with_reducible apply go_fieldAddr_own); rfl; rfl; rfl))
             | ((with_reducible (show evOp _ (.indexAddr _ _ _) _ _ _ _)) ; first | ((with_reducible apply go_index_nat); rfl; rfl; (with_reducible rfl); (intro; rfl); rfl; omega; (intro hlt)) | ((with_reducible apply go_index); rfl; rfl; (intro; rfl); rfl; omega; intro hlt))
             | ((with_reducible (show evOp _ (.binOp _ _ _ _ _) _ _ _ _)) ; first | ((with_reducible apply go_cmp); rfl; rfl; rfl; rfl) | ((with_reducible apply go_add); rfl; rfl; rfl; omega))
             | ((with_reducible (show evOp _ (.call _) _ _ _ _)) ; first | ((with_reducible apply go_fn_int); rfl; (exact x1); rfl) | ((with_reducible apply go_fn_int); rfl; (exact x2); rfl) | ((with_reducible apply go_fn_int); rfl; (exact x3); rfl))
             | (((with_reducible apply go_st_agg); rfl; rfl; rfl; rfl; rfl; rfl; rfl))
             | (((with_reducible apply go_pick); rfl; rfl; rfl))
             | (((with_reducible apply go_alloc); rfl; rfl; rfl)))
           | ((with_reducible (show evOps _ _ _ _ _ _)); first
             | (with_reducible apply go_nil)
             | ((with_reducible apply go_run); rfl; rfl)
             | ((with_reducible apply go_pass); rfl; rfl; rfl)
             | (((with_reducible apply go_guard); rfl) <;> (intro h; simp only [h, Bool.not_true, Bool.not_false]; (try with_reducible (refine ⟨rfl, ?_⟩)); try simp only [decide_eq_true_eq, decide_eq_false_iff_not, Bool.not_eq_true', Bool.not_eq_false', Bool.not_true, Bool.not_false] at h; try exact absurd trivial h))
             | (with_reducible apply go_take)
             | (with_reducible apply go_take0))
           | ((with_reducible (show evG _ _ _ _ _)); first
             | (with_reducible apply go_seq)
             | (with_reducible apply go_region)
             | ((with_reducible apply go_cond_f); rfl; rfl)
             | (((with_reducible apply go_cond); rfl) <;> (intro h; simp only [h]; try simp only [decide_eq_true_eq, decide_eq_false_iff_not, Bool.not_eq_true', Bool.not_eq_false', Bool.not_true, Bool.not_false] at h; try exact absurd trivial h))
             | ((with_reducible apply (go_drawL 18 [[5, 6, 7, 8, 9, 10, 11, 12, 13, 14], [10, 11, 12, 13, 14], []])); decide +kernel; rfl)
             | (with_reducible apply go_ret)
             | (with_reducible apply go_skipc)
             | (with_reducible apply go_block)
             | (with_reducible apply go_exit))
           | (with_reducible apply go_klined)
           | (with_reducible apply go_line_drop)
           | (with_reducible apply go_line_drop0)
           | (with_reducible apply go_line)
           | (with_reducible apply go_line_nil)
           | (with_reducible apply go_kln)
           | (with_reducible apply go_again_nil)
           | ((with_reducible apply go_again); rfl; (intro id'))
           | ((with_reducible apply go_kagain); rfl)
           | (with_reducible apply go_kseq)
           | (with_reducible apply go_kseq_ret)
           | (with_reducible apply go_kblock)
           | (with_reducible apply go_kblock_ret)
           | (with_reducible apply go_kblock_exit)
           | (with_reducible apply go_kseq_exit)
           | ((with_reducible apply end_t2); rfl; rfl; rfl; rfl)
        all_goals first
          | (exfalso; omega)
          | (rw [decide_eq_true ⟨by omega, by omega, by omega⟩] at hbe
             have hx := idxOf_some h2 hbe fun j hj => hC j hj (by omega)
             rw [hx, if_neg (by omega)]; rfl)
          | (rw [decide_eq_false (by omega)] at hbe
             refine ⟨h2, fun j hj hj' => ?_, entails_eq (nx := 32) (k := 0) (ns := []) (ks := [58, 57, 56, 5, 0]) [(0, 0)] rfl (by simp) (by kernel_rfl)⟩
             rcases Nat.lt_succ_iff_lt_or_eq.1 hj with h' | rfl
             · exact hC j h' hj'
             · exact hbe)
      · have hx := idx_none (l := l) (p := p) fun j hj => hC j (by omega) hj
        rw [if_pos hx]
        repeat' first
           | (with_reducible apply go_op)
           | (with_reducible apply go_next)
           | ((with_reducible (show evOp _ _ _ _ _ _)); first
             | ((with_reducible (show evOp _ (.move _) _ _ _ _)) ; first | ((with_reducible apply go_mv_int); rfl; rfl) | ((with_reducible apply go_mv_sl); rfl; rfl))
             | ((with_reducible apply go_as))
             | ((with_reducible (show evOp _ (.load _ _) _ _ _ _)) ; first | ((with_reducible apply go_ld_ptr); rfl; rfl; rfl) | ((with_reducible apply go_ld_agg); rfl; rfl; rfl; rfl) | ((with_reducible apply go_load_own); rfl; rfl; rfl; rfl))
             | (((with_reducible apply go_fieldAddr_own); rfl; rfl; rfl))
             | ((with_reducible (show evOp _ (.indexAddr _ _ _) _ _ _ _)) ; first | ((with_reducible apply go_index_nat); rfl; rfl; (with_reducible rfl); (intro; rfl); rfl; omega; (intro hlt)) | ((with_reducible apply go_index); rfl; rfl; (intro; rfl); rfl; omega; intro hlt))
             | (((with_reducible apply go_cmp); rfl; rfl; rfl; rfl))
             | (((with_reducible apply go_st_agg); rfl; rfl; rfl; rfl; rfl; rfl; rfl))
             | (((with_reducible apply go_alloc); rfl; rfl; rfl)))
           | ((with_reducible (show evOps _ _ _ _ _ _)); first
             | (with_reducible apply go_nil)
             | (with_reducible apply go_take)
             | (with_reducible apply go_take0))
           | ((with_reducible (show evG _ _ _ _ _)); first
             | (with_reducible apply go_seq)
             | (with_reducible apply go_region)
             | (((with_reducible apply go_cond); rfl) <;> (intro h; simp only [h]; try simp only [decide_eq_true_eq, decide_eq_false_iff_not, Bool.not_eq_true', Bool.not_eq_false', Bool.not_true, Bool.not_false] at h; try exact absurd trivial h))
             | ((with_reducible apply (go_drawL 18 [[5, 6, 7, 8, 9, 10, 11, 12, 13, 14], [10, 11, 12, 13, 14], []])); decide +kernel; rfl)
             | (with_reducible apply go_ret)
             | (with_reducible apply go_skipc)
             | (with_reducible apply go_block)
             | (with_reducible apply go_exit))
           | (with_reducible apply go_klined)
           | (with_reducible apply go_line_drop)
           | (with_reducible apply go_line_drop0)
           | (with_reducible apply go_line)
           | (with_reducible apply go_line_nil)
           | (with_reducible apply go_kln)
           | (with_reducible apply go_again_nil)
           | ((with_reducible apply go_again); rfl; (intro id'))
           | ((with_reducible apply go_kagain); rfl)
           | (with_reducible apply go_kseq)
           | (with_reducible apply go_kblock_exit)
           | (with_reducible apply go_kseq_exit)
           | ((with_reducible apply end_t2); rfl; rfl; rfl; rfl)
        all_goals first | (exfalso; omega) | rfl
end Go.Pv.Geo

open Go Go.Proofs Go.Pv
set_option maxHeartbeats 4000000
set_option maxRecDepth 100000
set_option linter.unusedSimpArgs false
set_option linter.unusedVariables false
namespace Go.Pv.Geo
theorem sign_le {n : Int} : signE n ≤ 0 ↔ n ≤ 0 := by unfold signE; (repeat' split) <;> omega
theorem sign_ge {n : Int} : 0 ≤ signE n ↔ 0 ≤ n := by unfold signE; (repeat' split) <;> omega
theorem c_rLocate (l : List Pt) (hl : l.length < 1000000000000) (ts : List Tri) (ht : ts.length < 1000000000000) (p : Pt) :
    Contract Try.prog 43 [.sl (l.map encPt), .sl (ts.map encTri), .agg (encPt p)] (.ret (.tup [.int .i64 (locE l ts p).1, .int .i64 (locE l ts p).2])) := by
  have hC0 := c_rCheck l hl
  by_cases hz : chkE l = 0
  rotate_left
  · have he : locE l ts p = (0, chkE l) := by simp [locE, hz]
    rw [he]
    refine contract_of mix Try.func43 rfl rfl (by rw [Try.ntmps43]; exact Nat.le_of_ble_eq_true rfl) ?_; rw [Try.results43, Try.ntmps43]; simp only [argsE, Nat.reduceAdd]
    repeat' first
           | (with_reducible apply go_op)
           | (with_reducible apply go_next)
           | ((with_reducible (show evOp _ _ _ _ _ _)); first
             | ((with_reducible (show evOp _ (.move _) _ _ _ _)) ; first | ((with_reducible apply go_mv_int); rfl; rfl) | ((with_reducible apply go_mv_sl); rfl; rfl))
             | ((with_reducible apply go_as))
             | (((with_reducible apply go_cmp); rfl; rfl; rfl; rfl))
             | ((with_reducible (show evOp _ (.call _) _ _ _ _)) ; first | ((with_reducible apply go_len); rfl; rfl) | ((with_reducible apply go_fn_int); rfl; (exact hC0); rfl))
             | (((with_reducible apply go_bx_agg); rfl; rfl; (exact Nat.le_of_ble_eq_true rfl); rfl; rfl)))
           | ((with_reducible (show evOps _ _ _ _ _ _)); first
             | (with_reducible apply go_nil))
           | ((with_reducible (show evG _ _ _ _ _)); first
             | (with_reducible apply go_seq)
             | (with_reducible apply go_region)
             | (((with_reducible apply go_cond); rfl) <;> (intro h; simp only [h]; try simp only [decide_eq_true_eq, decide_eq_false_iff_not, Bool.not_eq_true', Bool.not_eq_false', Bool.not_true, Bool.not_false] at h; try exact absurd trivial h))
             | (with_reducible apply go_ret)
             | (with_reducible apply go_skipc)
             | (with_reducible apply go_block))
           | (with_reducible apply go_kseq)
           | (with_reducible apply go_kseq_ret)
           | ((with_reducible apply end_t2); rfl; rfl; rfl; rfl)
    all_goals first | rfl | (exfalso; omega)
  obtain ⟨h64, hok⟩ := chk_ok hz
  rw [hz] at hC0
  by_cases hts : 128 < ts.length
  · have he : locE l ts p = (0, 8) := by simp [locE, hz, hts]
    rw [he]
    refine contract_of mix Try.func43 rfl rfl (by rw [Try.ntmps43]; exact Nat.le_of_ble_eq_true rfl) ?_; rw [Try.results43, Try.ntmps43]; simp only [argsE, Nat.reduceAdd]
    repeat' first
           | (with_reducible apply go_op)
           | (with_reducible apply go_next)
           | ((with_reducible (show evOp _ _ _ _ _ _)); first
             | ((with_reducible (show evOp _ (.move _) _ _ _ _)) ; first | ((with_reducible apply go_mv_int); rfl; rfl) | ((with_reducible apply go_mv_sl); rfl; rfl))
             | ((with_reducible apply go_as))
             | (((with_reducible apply go_cmp); rfl; rfl; rfl; rfl))
             | ((with_reducible (show evOp _ (.call _) _ _ _ _)) ; first | ((with_reducible apply go_len); rfl; rfl) | ((with_reducible apply go_fn_int); rfl; (exact hC0); rfl))
             | (((with_reducible apply go_bx_agg); rfl; rfl; (exact Nat.le_of_ble_eq_true rfl); rfl; rfl)))
           | ((with_reducible (show evOps _ _ _ _ _ _)); first
             | (with_reducible apply go_nil))
           | ((with_reducible (show evG _ _ _ _ _)); first
             | (with_reducible apply go_seq)
             | (with_reducible apply go_region)
             | ((with_reducible apply go_cond_f); rfl; rfl)
             | (((with_reducible apply go_cond); rfl) <;> (intro h; simp only [h]; try simp only [decide_eq_true_eq, decide_eq_false_iff_not, Bool.not_eq_true', Bool.not_eq_false', Bool.not_true, Bool.not_false] at h; try exact absurd trivial h))
             | (with_reducible apply go_ret)
             | (with_reducible apply go_skipc)
             | (with_reducible apply go_block))
           | (with_reducible apply go_kseq)
           | (with_reducible apply go_kseq_ret)
           | ((with_reducible apply end_t2); rfl; rfl; rfl; rfl)
    all_goals first | rfl | (exfalso; omega) | trace_state
  have hbad : badL l ts ≠ 0 → locE l ts p = (0, badL l ts) := fun h => by simp [locE, hz, hts, h]
  have hpo : badL l ts = 0 → ptOK p = false → locE l ts p = (0, 2) := fun h h' => by simp [locE, hz, hts, h, h']
  have hin : badL l ts = 0 → ptOK p = true → locE l ts p = if idxOf (inTri l p) ts = -1 then (0, 11) else (idxOf (inTri l p) ts, 0) := fun h h' => by simp [locE, hz, hts, h, h']
  have hgood := c_good p
  refine contract_of mix Try.func43 rfl rfl (by rw [Try.ntmps43]; exact Nat.le_of_ble_eq_true rfl) ?_; rw [Try.results43, Try.ntmps43]; simp only [argsE, Nat.reduceAdd]
  repeat' first
           | (with_reducible apply go_op)
           | (with_reducible apply go_next)
           | ((with_reducible (show evOp _ _ _ _ _ _)); first
             | ((with_reducible (show evOp _ (.move _) _ _ _ _)) ; first | ((with_reducible apply go_mv_int); rfl; rfl) | ((with_reducible apply go_mv_sl); rfl; rfl))
             | ((with_reducible apply go_as))
             | (((with_reducible apply go_cmp); rfl; rfl; rfl; rfl))
             | ((with_reducible (show evOp _ (.call _) _ _ _ _)) ; first | ((with_reducible apply go_len); rfl; rfl) | ((with_reducible apply go_fn_int); rfl; (exact hC0); rfl))
             | (((with_reducible apply go_bx_agg); rfl; rfl; (exact Nat.le_of_ble_eq_true rfl); rfl; rfl)))
           | ((with_reducible (show evOps _ _ _ _ _ _)); first
             | (with_reducible apply go_nil))
           | ((with_reducible (show evG _ _ _ _ _)); first
             | (with_reducible apply go_seq)
             | (with_reducible apply go_region)
             | ((with_reducible apply go_cond_f); rfl; rfl)
             | (((with_reducible apply go_cond); rfl) <;> (intro h; simp only [h]; try simp only [decide_eq_true_eq, decide_eq_false_iff_not, Bool.not_eq_true', Bool.not_eq_false', Bool.not_true, Bool.not_false] at h; try exact absurd trivial h))
             | (with_reducible apply go_ret)
             | (with_reducible apply go_skipc)
             | (with_reducible apply go_block))
           | (with_reducible apply go_kseq)
           | (with_reducible apply go_kseq_ret)
           | ((with_reducible apply end_t2); rfl; rfl; rfl; rfl)
  all_goals try (exfalso; omega)
  refine go_count ts.length (fun i => ⟨[(9, .int .i64 i), (5, .op 0 0 0), (0, .sl (l.map encPt)), (1, .sl (ts.map encTri))], [(0, ⟨2, true, [encPt p]⟩)], 32, 115⟩) (fun i => ∀ j (hj : j < i) (hj' : j < ts.length), badE l ts[j] = 0)
    (entails_eq (nx := 32) (k := 0) (ns := []) (ks := [9, 5, 0, 1]) [(0, 0)] rfl (by simp) (by kernel_rfl)) (by omega) ?_
  intro i hi hC
  by_cases h2 : i < ts.length
  · have hnum := c_has ts[i] l.length (by omega)
    cases hh : hasE l.length ts[i]
    · rw [hh] at hnum
      have hb : badE l ts[i] = 6 := by simp [badE, hh]
      repeat' first
           | (with_reducible apply go_op)
           | (with_reducible apply go_next)
           | ((with_reducible (show evOp _ _ _ _ _ _)); first
             | ((with_reducible (show evOp _ (.move _) _ _ _ _)) ; first | ((with_reducible apply go_mv_int); rfl; rfl) | ((with_reducible apply go_mv_sl); rfl; rfl))
             | ((with_reducible apply go_as))
             | ((with_reducible (show evOp _ (.load _ _) _ _ _ _)) ; first | ((with_reducible apply go_ld_ptr); rfl; rfl; rfl) | ((with_reducible apply go_ld_agg); rfl; rfl; rfl; rfl))
             | (((with_reducible apply go_index_nat); rfl; rfl; (with_reducible rfl); (intro; rfl); rfl; omega; (intro hlt)))
             | (((with_reducible apply go_cmp); rfl; rfl; rfl; rfl))
             | ((with_reducible (show evOp _ (.call _) _ _ _ _)) ; first | ((with_reducible apply go_len); rfl; rfl) | ((with_reducible apply go_fn_bool); rfl; (exact hnum); rfl))
             | (((with_reducible apply go_not); rfl; rfl)))
           | ((with_reducible (show evOps _ _ _ _ _ _)); first
             | (with_reducible apply go_nil))
           | ((with_reducible (show evG _ _ _ _ _)); first
             | (with_reducible apply go_seq)
             | (with_reducible apply go_region)
             | ((with_reducible apply go_cond_t); rfl; rfl)
             | (((with_reducible apply go_cond); rfl) <;> (intro h; simp only [h]; try simp only [decide_eq_true_eq, decide_eq_false_iff_not, Bool.not_eq_true', Bool.not_eq_false', Bool.not_true, Bool.not_false] at h; try exact absurd trivial h))
             | (with_reducible apply go_ret)
             | (with_reducible apply go_skipc)
             | (with_reducible apply go_block)
             | (with_reducible apply go_exit))
           | (with_reducible apply go_kseq)
           | (with_reducible apply go_kseq_ret)
           | (with_reducible apply go_kblock_ret)
           | (with_reducible apply go_kblock_exit)
           | (with_reducible apply go_kseq_exit)
           | ((with_reducible apply end_t2); rfl; rfl; rfl; rfl)
      all_goals first
        | (exfalso; omega)
        | (rw [hbad (by rw [badL_some h2 (by omega) hC]; omega), badL_some h2 (by omega) hC, hb]; rfl)
    · rw [hh] at hnum
      obtain ⟨q1, q2, q3⟩ := has_bd hh
      have hcr := c_rorient (l[ts[i].a.toNat]'(by omega)) (l[ts[i].b.toNat]'(by omega)) (l[ts[i].c.toNat]'(by omega)) (hok _ (List.getElem_mem _)) (hok _ (List.getElem_mem _)) (hok _ (List.getElem_mem _))
      have hbe : badE l ts[i] = if signE (crossE (l[ts[i].a.toNat]'(by omega)) (l[ts[i].b.toNat]'(by omega)) (l[ts[i].c.toNat]'(by omega))) ≤ 0 then 10 else 0 := by
        simp only [badE, hh, ptI_get, sign_le]; rfl
      repeat' first
           | (with_reducible apply go_op)
           | (with_reducible apply go_next)
           | ((with_reducible (show evOp _ _ _ _ _ _)); first
             | ((with_reducible (show evOp _ (.move _) _ _ _ _)) ; first | ((with_reducible apply go_mv_int); rfl; rfl) | ((with_reducible apply go_mv_sl); rfl; rfl))
             | ((with_reducible apply go_as))
             | ((with_reducible (show evOp _ (.load _ _) _ _ _ _)) ; first | ((with_reducible apply go_ld_ptr); rfl; rfl; rfl) | ((with_reducible apply go_ld_agg); rfl; rfl; rfl; rfl) | ((with_reducible apply go_load); rfl; rfl; rfl))
             | (((with_reducible apply go_fieldAddr); rfl; rfl))
             | ((with_reducible (show evOp _ (.indexAddr _ _ _) _ _ _ _)) ; first | ((with_reducible apply go_index_nat); rfl; rfl; (with_reducible rfl); (intro; rfl); rfl; omega; (intro hlt)) | ((with_reducible apply go_index); rfl; rfl; (intro; rfl); rfl; omega; intro hlt))
             | ((with_reducible (show evOp _ (.binOp _ _ _ _ _) _ _ _ _)) ; first | ((with_reducible apply go_cmp); rfl; rfl; rfl; rfl) | ((with_reducible apply go_add); rfl; rfl; rfl; omega))
             | ((with_reducible (show evOp _ (.call _) _ _ _ _)) ; first | ((with_reducible apply go_len); rfl; rfl) | ((with_reducible apply go_fn_bool); rfl; (exact hnum); rfl) | ((with_reducible apply go_fn_int); rfl; (exact hcr); rfl))
             | (((with_reducible apply go_not); rfl; rfl)))
           | ((with_reducible (show evOps _ _ _ _ _ _)); first
             | (with_reducible apply go_nil)
             | ((with_reducible apply go_pre); rfl)
             | (with_reducible apply go_pre_nil)
             | ((with_reducible apply go_suf); rfl)
             | (with_reducible apply go_suf_nil))
           | ((with_reducible (show evG _ _ _ _ _)); first
             | (with_reducible apply go_seq)
             | (with_reducible apply go_region)
             | ((with_reducible apply go_cond_f); rfl; rfl)
             | (((with_reducible apply go_cond); rfl) <;> (intro h; simp only [h]; try simp only [decide_eq_true_eq, decide_eq_false_iff_not, Bool.not_eq_true', Bool.not_eq_false', Bool.not_true, Bool.not_false] at h; try exact absurd trivial h))
             | ((with_reducible apply go_order); kernel_rfl; rfl)
             | (with_reducible apply go_ret)
             | (with_reducible apply go_skipc)
             | (with_reducible apply go_block)
             | (with_reducible apply go_exit))
           | (with_reducible apply go_kseq)
           | (with_reducible apply go_ksuf)
           | (with_reducible apply go_kseq_ret)
           | (with_reducible apply go_kblock)
           | (with_reducible apply go_kblock_ret)
           | (with_reducible apply go_kblock_exit)
           | (with_reducible apply go_kseq_exit)
           | ((with_reducible apply end_t2); rfl; rfl; rfl; rfl)
      all_goals first
        | (exfalso; omega)
        | (rw [if_pos (by assumption)] at hbe
           rw [hbad (by rw [badL_some h2 (by omega) hC]; omega), badL_some h2 (by omega) hC, hbe]; rfl)
        | (rw [if_neg (by assumption)] at hbe
           refine ⟨h2, fun j hj hj' => ?_, entails_eq (nx := 32) (k := 0) (ns := []) (ks := [9, 5, 0, 1]) [(0, 0)] rfl (by simp) (by kernel_rfl)⟩
           rcases Nat.lt_succ_iff_lt_or_eq.1 hj with h' | rfl
           · exact hC j h' hj'
           · exact hbe)
  · have hb0 : badL l ts = 0 := badL_none fun j hj => hC j (by omega) hj
    have hC' : ∀ j (hj : j < ts.length), badE l ts[j] = 0 := fun j hj => hC j (by omega) hj
    cases hp : ptOK p
    · rw [hp] at hgood
      rw [hpo hb0 hp]
      repeat' first
           | (with_reducible apply go_op)
           | (with_reducible apply go_next)
           | ((with_reducible (show evOp _ _ _ _ _ _)); first
             | ((with_reducible (show evOp _ (.move _) _ _ _ _)) ; first | ((with_reducible apply go_mv_int); rfl; rfl) | ((with_reducible apply go_mv_sl); rfl; rfl))
             | ((with_reducible apply go_as))
             | ((with_reducible (show evOp _ (.load _ _) _ _ _ _)) ; first | ((with_reducible apply go_ld_ptr); rfl; rfl; rfl) | ((with_reducible apply go_ld_agg); rfl; rfl; rfl; rfl))
             | (((with_reducible apply go_index_nat); rfl; rfl; (with_reducible rfl); (intro; rfl); rfl; omega; (intro hlt)))
             | (((with_reducible apply go_cmp); rfl; rfl; rfl; rfl))
             | ((with_reducible (show evOp _ (.call _) _ _ _ _)) ; first | ((with_reducible apply go_len); rfl; rfl) | ((with_reducible apply go_fn_bool); rfl; (exact hgood); rfl))
             | (((with_reducible apply go_not); rfl; rfl)))
           | ((with_reducible (show evOps _ _ _ _ _ _)); first
             | (with_reducible apply go_nil))
           | ((with_reducible (show evG _ _ _ _ _)); first
             | (with_reducible apply go_seq)
             | (with_reducible apply go_region)
             | ((with_reducible apply go_cond_t); rfl; rfl)
             | (((with_reducible apply go_cond); rfl) <;> (intro h; simp only [h]; try simp only [decide_eq_true_eq, decide_eq_false_iff_not, Bool.not_eq_true', Bool.not_eq_false', Bool.not_true, Bool.not_false] at h; try exact absurd trivial h))
             | (with_reducible apply go_ret)
             | (with_reducible apply go_skipc)
             | (with_reducible apply go_block)
             | (with_reducible apply go_exit))
           | (with_reducible apply go_kseq)
           | (with_reducible apply go_kseq_ret)
           | (with_reducible apply go_kblock_exit)
           | (with_reducible apply go_kseq_exit)
           | ((with_reducible apply end_t2); rfl; rfl; rfl; rfl)
      all_goals first | (exfalso; omega) | rfl
    · rw [hp] at hgood
      rw [hin hb0 hp]
      clear hbad hpo hin
      repeat' first
           | (with_reducible apply go_op)
           | (with_reducible apply go_next)
           | ((with_reducible (show evOp _ _ _ _ _ _)); first
             | ((with_reducible (show evOp _ (.move _) _ _ _ _)) ; first | ((with_reducible apply go_mv_int); rfl; rfl) | ((with_reducible apply go_mv_sl); rfl; rfl))
             | ((with_reducible apply go_as))
             | ((with_reducible (show evOp _ (.load _ _) _ _ _ _)) ; first | ((with_reducible apply go_ld_ptr); rfl; rfl; rfl) | ((with_reducible apply go_ld_agg); rfl; rfl; rfl; rfl))
             | (((with_reducible apply go_index_nat); rfl; rfl; (with_reducible rfl); (intro; rfl); rfl; omega; (intro hlt)))
             | (((with_reducible apply go_cmp); rfl; rfl; rfl; rfl))
             | ((with_reducible (show evOp _ (.call _) _ _ _ _)) ; first | ((with_reducible apply go_len); rfl; rfl) | ((with_reducible apply go_fn_bool); rfl; (exact hgood); rfl))
             | (((with_reducible apply go_not); rfl; rfl)))
           | ((with_reducible (show evOps _ _ _ _ _ _)); first
             | (with_reducible apply go_nil))
           | ((with_reducible (show evG _ _ _ _ _)); first
             | (with_reducible apply go_seq)
             | (with_reducible apply go_region)
             | ((with_reducible apply go_cond_f); rfl; rfl)
             | (((with_reducible apply go_cond); rfl) <;> (intro h; simp only [h]; try simp only [decide_eq_true_eq, decide_eq_false_iff_not, Bool.not_eq_true', Bool.not_eq_false', Bool.not_true, Bool.not_false] at h; try exact absurd trivial h))
             | (with_reducible apply go_skipc)
             | (with_reducible apply go_block)
             | (with_reducible apply go_exit))
           | (with_reducible apply go_kseq)
           | (with_reducible apply go_kblock_exit)
           | (with_reducible apply go_kseq_exit)
      all_goals try (exfalso; omega)
      refine go_count ts.length (fun i => ⟨[(10, .int .i64 i), (5, .op 0 0 0), (0, .sl (l.map encPt)), (1, .sl (ts.map encTri))], [(0, ⟨2, true, [encPt p]⟩)], 32, 115⟩) (fun i => ∀ j (hj : j < i) (hj' : j < ts.length), inTri l p ts[j] = false)
        (entails_eq (nx := 32) (k := 0) (ns := []) (ks := [10, 5, 0, 1]) [(0, 0)] rfl (by simp) (by kernel_rfl)) (by omega) ?_
      clear hC hi h2
      intro i hi hC
      by_cases h2 : i < ts.length
      · obtain ⟨q1, q2, q3⟩ := has_bd (bad_ok (hC' i h2)).1
        have o1 : ptOK (l[ts[i].a.toNat]'(by omega)) = true := hok _ (List.getElem_mem _)
        have o2 : ptOK (l[ts[i].b.toNat]'(by omega)) = true := hok _ (List.getElem_mem _)
        have o3 : ptOK (l[ts[i].c.toNat]'(by omega)) = true := hok _ (List.getElem_mem _)
        have x1 := c_rorient _ _ p o1 o2 hp
        have x2 := c_rorient _ _ p o2 o3 hp
        have x3 := c_rorient _ _ p o3 o1 hp
        have hbe : inTri l p ts[i] = decide (0 ≤ signE (crossE (l[ts[i].a.toNat]'(by omega)) (l[ts[i].b.toNat]'(by omega)) p) ∧ 0 ≤ signE (crossE (l[ts[i].b.toNat]'(by omega)) (l[ts[i].c.toNat]'(by omega)) p) ∧ 0 ≤ signE (crossE (l[ts[i].c.toNat]'(by omega)) (l[ts[i].a.toNat]'(by omega)) p)) := by
          simp only [inTri, ptI_get, sign_ge]
        repeat' first
           | (with_reducible apply go_op)
           | (with_reducible apply go_next)
           | ((with_reducible (show evOp _ _ _ _ _ _)); first
             | ((with_reducible (show evOp _ (.move _) _ _ _ _)) ; first | ((with_reducible apply go_mv_int); rfl; rfl) | ((with_reducible apply go_mv_bool); rfl; rfl) | ((with_reducible apply go_mv_sl); rfl; rfl))
             | ((with_reducible apply go_as))
             | ((with_reducible (show evOp _ (.load _ _) _ _ _ _)) ; first | ((with_reducible apply go_ld_ptr); rfl; rfl; rfl) | ((with_reducible apply go_ld_agg); rfl; rfl; rfl; rfl) | ((with_reducible apply go_load); rfl; rfl; rfl))
             | (((with_reducible apply go_fieldAddr); rfl; rfl))
             | ((with_reducible (show evOp _ (.indexAddr _ _ _) _ _ _ _)) ; first | ((with_reducible apply go_index_nat); rfl; rfl; (with_reducible rfl); (intro; rfl); rfl; omega; (intro hlt)) | ((with_reducible apply go_index); rfl; rfl; (intro; rfl); rfl; omega; intro hlt))
             | ((with_reducible (show evOp _ (.binOp _ _ _ _ _) _ _ _ _)) ; first | ((with_reducible apply go_cmp); rfl; rfl; rfl; rfl) | ((with_reducible apply go_add); rfl; rfl; rfl; omega))
             | ((with_reducible (show evOp _ (.call _) _ _ _ _)) ; first | ((with_reducible apply go_len); rfl; rfl) | ((with_reducible apply go_fn_int); rfl; (exact x1); rfl) | ((with_reducible apply go_fn_int); rfl; (exact x2); rfl) | ((with_reducible apply go_fn_int); rfl; (exact x3); rfl))
             | (((with_reducible apply go_st_agg); rfl; rfl; rfl; rfl; rfl; rfl; rfl))
             | (((with_reducible apply go_pick); rfl; rfl; rfl))
             | (((with_reducible apply go_alloc); rfl; rfl; rfl)))
           | ((with_reducible (show evOps _ _ _ _ _ _)); first
             | (with_reducible apply go_nil)
             | ((with_reducible apply go_run); rfl; rfl)
             | ((with_reducible apply go_pass); rfl; rfl; rfl)
             | (((with_reducible apply go_guard); rfl) <;> (intro h; simp only [h, Bool.not_true, Bool.not_false]; (try with_reducible (refine ⟨rfl, ?_⟩)); try simp only [decide_eq_true_eq, decide_eq_false_iff_not, Bool.not_eq_true', Bool.not_eq_false', Bool.not_true, Bool.not_false] at h; try exact absurd trivial h))
             | (with_reducible apply go_take)
             | (with_reducible apply go_take0))
           | ((with_reducible (show evG _ _ _ _ _)); first
             | (with_reducible apply go_seq)
             | (with_reducible apply go_region)
             | ((with_reducible apply go_cond_f); rfl; rfl)
             | (((with_reducible apply go_cond); rfl) <;> (intro h; simp only [h]; try simp only [decide_eq_true_eq, decide_eq_false_iff_not, Bool.not_eq_true', Bool.not_eq_false', Bool.not_true, Bool.not_false] at h; try exact absurd trivial h))
             | ((with_reducible apply (go_drawL 27 [[8, 9, 10, 11, 12, 13, 14, 15, 16, 17, 18, 19, 20, 21, 22, 23], [16, 17, 18, 19, 20, 21, 22, 23], []])); decide +kernel; rfl)
             | (with_reducible apply go_ret)
             | (with_reducible apply go_skipc)
             | (with_reducible apply go_block)
             | (with_reducible apply go_exit))
           | (with_reducible apply go_klined)
           | (with_reducible apply go_line_drop)
           | (with_reducible apply go_line_drop0)
           | (with_reducible apply go_line)
           | (with_reducible apply go_line_nil)
           | (with_reducible apply go_kln)
           | (with_reducible apply go_again_nil)
           | ((with_reducible apply go_again); rfl; (intro id'))
           | ((with_reducible apply go_kagain); rfl)
           | (with_reducible apply go_kseq)
           | (with_reducible apply go_kseq_ret)
           | (with_reducible apply go_kblock)
           | (with_reducible apply go_kblock_ret)
           | (with_reducible apply go_kblock_exit)
           | (with_reducible apply go_kseq_exit)
           | ((with_reducible apply end_t2); rfl; rfl; rfl; rfl)
        all_goals first
          | (exfalso; omega)
          | (rw [decide_eq_true ⟨by omega, by omega, by omega⟩] at hbe
             have hx := idxOf_some h2 hbe fun j hj => hC j hj (by omega)
             rw [hx, if_neg (by omega)]; rfl)
          | (rw [decide_eq_false (by omega)] at hbe
             refine ⟨h2, fun j hj hj' => ?_, entails_eq (nx := 32) (k := 0) (ns := []) (ks := [10, 5, 0, 1]) [(0, 0)] rfl (by simp) (by kernel_rfl)⟩
             rcases Nat.lt_succ_iff_lt_or_eq.1 hj with h' | rfl
             · exact hC j h' hj'
             · exact hbe)
      · have hx := idx_none (l := l) (p := p) fun j hj => hC j (by omega) hj
        rw [if_pos hx]
        repeat' first
           | (with_reducible apply go_op)
           | (with_reducible apply go_next)
           | ((with_reducible (show evOp _ _ _ _ _ _)); first
             | ((with_reducible (show evOp _ (.move _) _ _ _ _)) ; first | ((with_reducible apply go_mv_int); rfl; rfl) | ((with_reducible apply go_mv_sl); rfl; rfl))
             | ((with_reducible apply go_as))
             | ((with_reducible (show evOp _ (.load _ _) _ _ _ _)) ; first | ((with_reducible apply go_ld_ptr); rfl; rfl; rfl) | ((with_reducible apply go_ld_agg); rfl; rfl; rfl; rfl) | ((with_reducible apply go_load); rfl; rfl; rfl))
             | (((with_reducible apply go_fieldAddr); rfl; rfl))
             | ((with_reducible (show evOp _ (.indexAddr _ _ _) _ _ _ _)) ; first | ((with_reducible apply go_index_nat); rfl; rfl; (with_reducible rfl); (intro; rfl); rfl; omega; (intro hlt)) | ((with_reducible apply go_index); rfl; rfl; (intro; rfl); rfl; omega; intro hlt))
             | (((with_reducible apply go_cmp); rfl; rfl; rfl; rfl))
             | (((with_reducible apply go_len); rfl; rfl))
             | (((with_reducible apply go_st_agg); rfl; rfl; rfl; rfl; rfl; rfl; rfl))
             | (((with_reducible apply go_alloc); rfl; rfl; rfl)))
           | ((with_reducible (show evOps _ _ _ _ _ _)); first
             | (with_reducible apply go_nil)
             | (with_reducible apply go_take)
             | (with_reducible apply go_take0))
           | ((with_reducible (show evG _ _ _ _ _)); first
             | (with_reducible apply go_seq)
             | (with_reducible apply go_region)
             | (((with_reducible apply go_cond); rfl) <;> (intro h; simp only [h]; try simp only [decide_eq_true_eq, decide_eq_false_iff_not, Bool.not_eq_true', Bool.not_eq_false', Bool.not_true, Bool.not_false] at h; try exact absurd trivial h))
             | ((with_reducible apply (go_drawL 27 [[8, 9, 10, 11, 12, 13, 14, 15, 16, 17, 18, 19, 20, 21, 22, 23], [16, 17, 18, 19, 20, 21, 22, 23], []])); decide +kernel; rfl)
             | (with_reducible apply go_ret)
             | (with_reducible apply go_skipc)
             | (with_reducible apply go_block)
             | (with_reducible apply go_exit))
           | (with_reducible apply go_klined)
           | (with_reducible apply go_line_drop)
           | (with_reducible apply go_line_drop0)
           | (with_reducible apply go_line)
           | (with_reducible apply go_line_nil)
           | (with_reducible apply go_kln)
           | (with_reducible apply go_again_nil)
           | ((with_reducible apply go_again); rfl; (intro id'))
           | ((with_reducible apply go_kagain); rfl)
           | (with_reducible apply go_kseq)
           | (with_reducible apply go_kblock_exit)
           | (with_reducible apply go_kseq_exit)
           | ((with_reducible apply end_t2); rfl; rfl; rfl; rfl)
        all_goals first | (exfalso; omega) | rfl
theorem c9 (l : List Pt) (ts : List Tri) (p : Pt) :
    Contract Try.prog 9 [.sl (l.map encPt), .sl (ts.map encTri), .agg (encPt p)] (.ret (.bool true)) := by
  by_cases hb : l.length ≤ 70 ∧ ts.length ≤ 130
  · have h1 := c_Locate l (by omega) ts (by omega) p
    have h2 := c_rLocate l (by omega) ts (by omega) p
    refine contract_of mix Try.func9 rfl rfl (by rw [Try.ntmps9]; exact Nat.le_of_ble_eq_true rfl) ?_; rw [Try.results9, Try.ntmps9]; simp only [argsE, Nat.reduceAdd]
    repeat' first
           | (with_reducible apply go_op)
           | (with_reducible apply go_next)
           | ((with_reducible (show evOp _ _ _ _ _ _)); first
             | ((with_reducible (show evOp _ (.move _) _ _ _ _)) ; first | ((with_reducible apply go_mv_int); rfl; rfl) | ((with_reducible apply go_mv_bool); rfl; rfl) | ((with_reducible apply go_mv_sl); rfl; rfl) | ((with_reducible apply go_mv_tup); rfl; rfl))
             | ((with_reducible apply go_as))
             | (((with_reducible apply go_ld_agg); rfl; rfl; rfl; rfl))
             | (((with_reducible apply go_cmp); rfl; rfl; rfl; rfl))
             | ((with_reducible (show evOp _ (.call _) _ _ _ _)) ; first | ((with_reducible apply go_len); rfl; rfl) | ((with_reducible apply go_fn_bool); rfl; (exact c_awake); rfl) | ((with_reducible apply go_fn_plain); rfl; (exact h1); rfl; (exact Nat.le_of_ble_eq_true rfl); rfl) | ((with_reducible apply go_fn_plain); rfl; (exact h2); rfl; (exact Nat.le_of_ble_eq_true rfl); rfl))
             | (((with_reducible apply go_not); rfl; rfl))
             | (((with_reducible apply go_extract); rfl; rfl))
             | (((with_reducible apply go_pick); rfl; rfl; rfl))
             | (((with_reducible apply go_bx_agg); rfl; rfl; (exact Nat.le_of_ble_eq_true rfl); rfl; rfl)))
           | ((with_reducible (show evOps _ _ _ _ _ _)); first
             | (with_reducible apply go_nil)
             | ((with_reducible apply go_run); rfl; rfl)
             | ((with_reducible apply go_pass); rfl; rfl; rfl)
             | (((with_reducible apply go_guard); rfl) <;> (intro h; simp only [h, Bool.not_true, Bool.not_false]; (try with_reducible (refine ⟨rfl, ?_⟩)); try simp only [decide_eq_true_eq, decide_eq_false_iff_not, Bool.not_eq_true', Bool.not_eq_false', Bool.not_true, Bool.not_false] at h; try exact absurd trivial h)))
           | ((with_reducible (show evG _ _ _ _ _)); first
             | (with_reducible apply go_seq)
             | (with_reducible apply go_region)
             | ((with_reducible apply go_cond_t); rfl; rfl)
             | ((with_reducible apply go_cond_f); rfl; rfl)
             | (((with_reducible apply go_cond); rfl) <;> (intro h; simp only [h]; try simp only [decide_eq_true_eq, decide_eq_false_iff_not, Bool.not_eq_true', Bool.not_eq_false', Bool.not_true, Bool.not_false] at h; try exact absurd trivial h))
             | (with_reducible apply go_ret)
             | (with_reducible apply go_skipc))
           | (with_reducible apply go_kseq)
           | (with_reducible apply go_kseq_ret)
           | ((with_reducible apply end_bool); rfl)
           | (with_reducible rfl)
    all_goals first | rfl | (exfalso; omega) | (exfalso; simp_all; done) | (simp; done) | trace_state
  · refine contract_of mix Try.func9 rfl rfl (by rw [Try.ntmps9]; exact Nat.le_of_ble_eq_true rfl) ?_; rw [Try.results9, Try.ntmps9]; simp only [argsE, Nat.reduceAdd]
    repeat' first
           | (with_reducible apply go_op)
           | (with_reducible apply go_next)
           | ((with_reducible (show evOp _ _ _ _ _ _)); first
             | ((with_reducible (show evOp _ (.move _) _ _ _ _)) ; first | ((with_reducible apply go_mv_bool); rfl; rfl) | ((with_reducible apply go_mv_sl); rfl; rfl))
             | ((with_reducible apply go_as))
             | (((with_reducible apply go_ld_agg); rfl; rfl; rfl; rfl))
             | (((with_reducible apply go_cmp); rfl; rfl; rfl; rfl))
             | ((with_reducible (show evOp _ (.call _) _ _ _ _)) ; first | ((with_reducible apply go_len); rfl; rfl) | ((with_reducible apply go_fn_bool); rfl; (exact c_awake); rfl))
             | (((with_reducible apply go_not); rfl; rfl))
             | (((with_reducible apply go_pick); rfl; rfl; rfl))
             | (((with_reducible apply go_bx_agg); rfl; rfl; (exact Nat.le_of_ble_eq_true rfl); rfl; rfl)))
           | ((with_reducible (show evOps _ _ _ _ _ _)); first
             | (with_reducible apply go_nil)
             | ((with_reducible apply go_run); rfl; rfl)
             | ((with_reducible apply go_pass); rfl; rfl; rfl)
             | (((with_reducible apply go_guard); rfl) <;> (intro h; simp only [h, Bool.not_true, Bool.not_false]; (try with_reducible (refine ⟨rfl, ?_⟩)); try simp only [decide_eq_true_eq, decide_eq_false_iff_not, Bool.not_eq_true', Bool.not_eq_false', Bool.not_true, Bool.not_false] at h; try exact absurd trivial h)))
           | ((with_reducible (show evG _ _ _ _ _)); first
             | (with_reducible apply go_seq)
             | (with_reducible apply go_region)
             | ((with_reducible apply go_cond_t); rfl; rfl)
             | ((with_reducible apply go_cond_f); rfl; rfl)
             | (((with_reducible apply go_cond); rfl) <;> (intro h; simp only [h]; try simp only [decide_eq_true_eq, decide_eq_false_iff_not, Bool.not_eq_true', Bool.not_eq_false', Bool.not_true, Bool.not_false] at h; try exact absurd trivial h))
             | (with_reducible apply go_ret)
             | (with_reducible apply go_skipc))
           | (with_reducible apply go_kseq)
           | (with_reducible apply go_kseq_ret)
           | ((with_reducible apply end_bool); rfl)
           | (with_reducible rfl)
    all_goals first | rfl | (exfalso; omega) | trace_state
end Go.Pv.Geo

open Go Go.Proofs Go.Pv
set_option maxHeartbeats 8000000
set_option maxRecDepth 100000
set_option linter.unusedSimpArgs false
set_option linter.unusedVariables false
namespace Go.Pv.Geo
theorem c_Points (a : List Pt) (ha : a.length < 1000000000000) : Contract Try.prog 28 [.sl (a.map encPt), .sl (a.map encPt)] (.ret (.bool true)) := by
  refine contract_of mix Try.func28 rfl rfl (by rw [Try.ntmps28]; exact Nat.le_of_ble_eq_true rfl) ?_; rw [Try.results28, Try.ntmps28]; simp only [argsE, Nat.reduceAdd]
  repeat' first
           | (with_reducible apply go_op)
           | (with_reducible apply go_next)
           | ((with_reducible (show evOp _ _ _ _ _ _)); first
             | ((with_reducible (show evOp _ (.move _) _ _ _ _)) ; first | ((with_reducible apply go_mv_int); rfl; rfl) | ((with_reducible apply go_mv_bool); rfl; rfl) | ((with_reducible apply go_mv_sl); rfl; rfl))
             | ((with_reducible apply go_as))
             | (((with_reducible apply go_cmp); rfl; rfl; rfl; rfl))
             | (((with_reducible apply go_len); rfl; rfl)))
           | ((with_reducible (show evOps _ _ _ _ _ _)); first
             | (with_reducible apply go_nil))
           | ((with_reducible (show evG _ _ _ _ _)); first
             | (with_reducible apply go_seq)
             | (with_reducible apply go_region)
             | (((with_reducible apply go_cond); rfl) <;> (intro h; simp only [h]; try simp only [decide_eq_true_eq, decide_eq_false_iff_not, Bool.not_eq_true', Bool.not_eq_false', Bool.not_true, Bool.not_false] at h; try exact absurd trivial h))
             | (with_reducible apply go_skipc)
             | (with_reducible apply go_block))
           | (with_reducible apply go_kseq)
  all_goals try (exfalso; omega)
  refine go_count a.length (fun i => ⟨[(5, .int .i64 i), (0, .sl (a.map encPt)), (1, .sl (a.map encPt))], [], 0, 26⟩) (fun i => True) (entails_eq (k := 0) (ns := []) (ks := [5, 0, 1]) [] rfl (by simp) rfl) trivial ?_
  intro i hi _
  repeat' first
           | (with_reducible apply go_op)
           | (with_reducible apply go_next)
           | ((with_reducible (show evOp _ _ _ _ _ _)); first
             | ((with_reducible (show evOp _ (.move _) _ _ _ _)) ; first | ((with_reducible apply go_mv_int); rfl; rfl) | ((with_reducible apply go_mv_bool); rfl; rfl) | ((with_reducible apply go_mv_sl); rfl; rfl))
             | ((with_reducible apply go_as))
             | (((with_reducible apply go_ld_ptr); rfl; rfl; rfl))
             | (((with_reducible apply go_index_nat); rfl; rfl; (with_reducible rfl); (intro; rfl); rfl; omega; (intro hlt)))
             | ((with_reducible (show evOp _ (.binOp _ _ _ _ _) _ _ _ _)) ; first | ((with_reducible apply go_cmp); rfl; rfl; rfl; rfl) | ((with_reducible apply go_add); rfl; rfl; rfl; omega) | ((with_reducible apply go_neq_agg); rfl; rfl; rfl; rfl))
             | (((with_reducible apply go_len); rfl; rfl)))
           | ((with_reducible (show evOps _ _ _ _ _ _)); first
             | (with_reducible apply go_nil)
             | ((with_reducible apply go_pre); rfl)
             | (with_reducible apply go_pre_nil)
             | ((with_reducible apply go_suf); rfl)
             | (with_reducible apply go_suf_nil))
           | ((with_reducible (show evG _ _ _ _ _)); first
             | (with_reducible apply go_seq)
             | (with_reducible apply go_region)
             | (((with_reducible apply go_cond); rfl) <;> (intro h; simp only [h]; try simp only [decide_eq_true_eq, decide_eq_false_iff_not, Bool.not_eq_true', Bool.not_eq_false', Bool.not_true, Bool.not_false] at h; try exact absurd trivial h))
             | ((with_reducible apply go_order); kernel_rfl; rfl)
             | (with_reducible apply go_ret)
             | (with_reducible apply go_skipc)
             | (with_reducible apply go_block)
             | (with_reducible apply go_exit))
           | (with_reducible apply go_kseq)
           | (with_reducible apply go_ksuf)
           | (with_reducible apply go_kseq_ret)
           | (with_reducible apply go_kblock)
           | (with_reducible apply go_kblock_ret)
           | (with_reducible apply go_kblock_exit)
           | (with_reducible apply go_kseq_exit)
           | ((with_reducible apply end_bool); rfl)
           | (with_reducible rfl)
  all_goals first
    | (exfalso; omega)
    | (exfalso; simp at *; done)
    | exact ⟨by omega, trivial, entails_eq (k := 0) (ns := []) (ks := [5, 0, 1]) [] rfl (by simp) rfl⟩
    | rfl
    | trace_state
/-- The hull and its error. -/
def hullX (l : List Pt) : List Pt := if chkE l = 0 then hullR l else []
theorem c_Hull (l : List Pt) (hl : l.length < 1000000000000) : Contract Try.prog 25 [.sl (l.map encPt)] (.ret (.tup [.fr 2 ((hullX l).map encPt), .int .i64 (chkE l)])) := by
  have h1 := c_Check l hl
  by_cases hz : chkE l = 0
  · obtain ⟨h64, hok⟩ := chk_ok hz
    have h2 := c_hull l (by omega) hok
    rw [hz] at h1 ⊢
    rw [show hullX l = hullR l from if_pos hz]
    refine contract_of mix Try.func25 rfl rfl (by rw [Try.ntmps25]; exact Nat.le_of_ble_eq_true rfl) ?_; rw [Try.results25, Try.ntmps25]; simp only [argsE, Nat.reduceAdd]
    repeat' first
           | (with_reducible apply go_op)
           | (with_reducible apply go_next)
           | ((with_reducible (show evOp _ _ _ _ _ _)); first
             | ((with_reducible (show evOp _ (.move _) _ _ _ _)) ; first | ((with_reducible apply go_mv_int); rfl; rfl) | ((with_reducible apply go_mv_sl); rfl; rfl) | ((with_reducible apply go_mv_os); rfl; rfl) | ((with_reducible apply go_mv_nilsl); rfl; rfl))
             | ((with_reducible apply go_as))
             | (((with_reducible apply go_cmp); rfl; rfl; rfl; rfl))
             | ((with_reducible (show evOp _ (.call _) _ _ _ _)) ; first | ((with_reducible apply go_fn_int); rfl; (exact h1); rfl) | ((with_reducible apply go_fn_fr); rfl; (exact h2); (exact scalPt); rfl)))
           | ((with_reducible (show evOps _ _ _ _ _ _)); first
             | (with_reducible apply go_nil))
           | ((with_reducible (show evG _ _ _ _ _)); first
             | (with_reducible apply go_seq)
             | (with_reducible apply go_region)
             | ((with_reducible apply go_cond_f); rfl; rfl)
             | (with_reducible apply go_ret)
             | (with_reducible apply go_skipc))
           | (with_reducible apply go_kseq)
    all_goals first
      | (exfalso; omega)
      | exact finK_ret (fin_fr2 rfl (by simp) rfl rfl rfl)
      | trace_state
  · rw [show hullX l = [] from if_neg hz]
    generalize chkE l = e at *
    refine contract_of mix Try.func25 rfl rfl (by rw [Try.ntmps25]; exact Nat.le_of_ble_eq_true rfl) ?_; rw [Try.results25, Try.ntmps25]; simp only [argsE, Nat.reduceAdd]
    repeat' first
           | (with_reducible apply go_op)
           | (with_reducible apply go_next)
           | ((with_reducible (show evOp _ _ _ _ _ _)); first
             | ((with_reducible (show evOp _ (.move _) _ _ _ _)) ; first | ((with_reducible apply go_mv_int); rfl; rfl) | ((with_reducible apply go_mv_sl); rfl; rfl) | ((with_reducible apply go_mv_nilsl); rfl; rfl))
             | ((with_reducible apply go_as))
             | (((with_reducible apply go_cmp); rfl; rfl; rfl; rfl))
             | (((with_reducible apply go_fn_int); rfl; (exact h1); rfl)))
           | ((with_reducible (show evOps _ _ _ _ _ _)); first
             | (with_reducible apply go_nil))
           | ((with_reducible (show evG _ _ _ _ _)); first
             | (with_reducible apply go_seq)
             | (with_reducible apply go_region)
             | (((with_reducible apply go_cond); rfl) <;> (intro h; simp only [h]; try simp only [decide_eq_true_eq, decide_eq_false_iff_not, Bool.not_eq_true', Bool.not_eq_false', Bool.not_true, Bool.not_false] at h; try exact absurd trivial h))
             | (with_reducible apply go_ret)
             | (with_reducible apply go_skipc))
           | (with_reducible apply go_kseq)
           | (with_reducible apply go_kseq_ret)
    all_goals first
      | (exfalso; omega)
      | exact finK_ret (fin_nil2 rfl rfl rfl)
      | trace_state
theorem c_law4 (l : List Pt) (hl : l.length ≤ 9223372036854775807) : Contract Try.prog 4 [.sl (l.map encPt)] (.ret (.bool true)) := by
  by_cases h70 : l.length ≤ 70
  rotate_left
  · refine contract_of mix Try.func4 rfl rfl (by rw [Try.ntmps4]; exact Nat.le_of_ble_eq_true rfl) ?_; rw [Try.results4, Try.ntmps4]; simp only [argsE, Nat.reduceAdd]
    repeat' first
           | (with_reducible apply go_op)
           | (with_reducible apply go_next)
           | ((with_reducible (show evOp _ _ _ _ _ _)); first
             | ((with_reducible (show evOp _ (.move _) _ _ _ _)) ; first | ((with_reducible apply go_mv_bool); rfl; rfl) | ((with_reducible apply go_mv_sl); rfl; rfl))
             | ((with_reducible apply go_as))
             | (((with_reducible apply go_cmp); rfl; rfl; rfl; rfl))
             | ((with_reducible (show evOp _ (.call _) _ _ _ _)) ; first | ((with_reducible apply go_len); rfl; rfl) | ((with_reducible apply go_fn_bool); rfl; (exact c_awake); rfl))
             | (((with_reducible apply go_not); rfl; rfl)))
           | ((with_reducible (show evOps _ _ _ _ _ _)); first
             | (with_reducible apply go_nil))
           | ((with_reducible (show evG _ _ _ _ _)); first
             | (with_reducible apply go_seq)
             | (with_reducible apply go_region)
             | ((with_reducible apply go_cond_f); rfl; rfl)
             | (((with_reducible apply go_cond); rfl) <;> (intro h; simp only [h]; try simp only [decide_eq_true_eq, decide_eq_false_iff_not, Bool.not_eq_true', Bool.not_eq_false', Bool.not_true, Bool.not_false] at h; try exact absurd trivial h))
             | (with_reducible apply go_ret)
             | (with_reducible apply go_skipc))
           | (with_reducible apply go_kseq)
           | (with_reducible apply go_kseq_ret)
           | ((with_reducible apply end_bool); rfl)
           | (with_reducible rfl)
    all_goals (exfalso; omega)
  have h1 := c_Check l (by omega)
  have h2 := c_rCheck l (by omega)
  have h3 := c_Hull l (by omega)
  by_cases hz : chkE l = 0
  · obtain ⟨h64, hok⟩ := chk_ok hz
    have h4 := c_rHull l (by omega) hok
    have hhl := hullR_len hok
    have h5 := c_Points (hullR l) (by omega)
    rw [hz] at h1 h2 h3
    rw [show hullX l = hullR l from if_pos hz] at h3
    generalize hullR l = H at *
    refine contract_of mix Try.func4 rfl rfl (by rw [Try.ntmps4]; exact Nat.le_of_ble_eq_true rfl) ?_; rw [Try.results4, Try.ntmps4]; simp only [argsE, Nat.reduceAdd]
    repeat' first
           | (with_reducible apply go_op)
           | (with_reducible apply go_next)
           | ((with_reducible (show evOp _ _ _ _ _ _)); first
             | ((with_reducible (show evOp _ (.move _) _ _ _ _)) ; first | ((with_reducible apply go_mv_int); rfl; rfl) | ((with_reducible apply go_mv_bool); rfl; rfl) | ((with_reducible apply go_mv_sl); rfl; rfl) | ((with_reducible apply go_mv_os); rfl; rfl) | ((with_reducible apply go_mv_tup); rfl; rfl))
             | ((with_reducible apply go_as))
             | (((with_reducible apply go_cmp); rfl; rfl; rfl; rfl))
             | ((with_reducible (show evOp _ (.call _) _ _ _ _)) ; first | ((with_reducible apply go_len); rfl; rfl) | ((with_reducible apply go_fn_bool); rfl; (exact c_awake); rfl) | ((with_reducible apply go_fn_fr2); rfl; (exact h3); (exact scalPt); rfl; rfl) | ((with_reducible apply go_fn_int); rfl; (exact h1); rfl) | ((with_reducible apply go_fn_int); rfl; (exact h2); rfl) | ((with_reducible apply go_fn_fr); rfl; (exact h4); (exact scalPt); rfl) | ((with_reducible apply go_fn_bool); (exact pur2_own rfl rfl rfl rfl (by simp) (by simp)); (exact h5); rfl))
             | (((with_reducible apply go_not); rfl; rfl))
             | (((with_reducible apply go_extract); rfl; rfl))
             | (((with_reducible apply go_pick); rfl; rfl; rfl)))
           | ((with_reducible (show evOps _ _ _ _ _ _)); first
             | (with_reducible apply go_nil)
             | ((with_reducible apply go_run); rfl; rfl))
           | ((with_reducible (show evG _ _ _ _ _)); first
             | (with_reducible apply go_seq)
             | (with_reducible apply go_region)
             | ((with_reducible apply go_cond_f); rfl; rfl)
             | (((with_reducible apply go_cond); rfl) <;> (intro h; simp only [h]; try simp only [decide_eq_true_eq, decide_eq_false_iff_not, Bool.not_eq_true', Bool.not_eq_false', Bool.not_true, Bool.not_false] at h; try exact absurd trivial h))
             | (with_reducible apply go_ret)
             | (with_reducible apply go_skipc))
           | (with_reducible apply go_kseq)
           | (with_reducible apply go_kseq_ret)
           | ((with_reducible apply end_bool); rfl)
           | (with_reducible rfl)
    all_goals first
      | (exfalso; omega)
      | trace_state
  · rw [show hullX l = [] from if_neg hz] at h3
    generalize chkE l = e at *
    refine contract_of mix Try.func4 rfl rfl (by rw [Try.ntmps4]; exact Nat.le_of_ble_eq_true rfl) ?_; rw [Try.results4, Try.ntmps4]; simp only [argsE, Nat.reduceAdd]
    repeat' first
           | (with_reducible apply go_op)
           | (with_reducible apply go_next)
           | ((with_reducible (show evOp _ _ _ _ _ _)); first
             | ((with_reducible (show evOp _ (.move _) _ _ _ _)) ; first | ((with_reducible apply go_mv_int); rfl; rfl) | ((with_reducible apply go_mv_bool); rfl; rfl) | ((with_reducible apply go_mv_sl); rfl; rfl) | ((with_reducible apply go_mv_os); rfl; rfl) | ((with_reducible apply go_mv_tup); rfl; rfl))
             | ((with_reducible apply go_as))
             | (((with_reducible apply go_cmp); rfl; rfl; rfl; rfl))
             | ((with_reducible (show evOp _ (.call _) _ _ _ _)) ; first | ((with_reducible apply go_len); rfl; rfl) | ((with_reducible apply go_len_own); rfl; rfl; rfl) | ((with_reducible apply go_fn_bool); rfl; (exact c_awake); rfl) | ((with_reducible apply go_fn_fr2); rfl; (exact h3); (exact scalPt); rfl; rfl) | ((with_reducible apply go_fn_int); rfl; (exact h1); rfl) | ((with_reducible apply go_fn_int); rfl; (exact h2); rfl))
             | (((with_reducible apply go_not); rfl; rfl))
             | (((with_reducible apply go_extract); rfl; rfl))
             | (((with_reducible apply go_pick); rfl; rfl; rfl)))
           | ((with_reducible (show evOps _ _ _ _ _ _)); first
             | (with_reducible apply go_nil)
             | ((with_reducible apply go_run); rfl; rfl)
             | (((with_reducible apply go_guard); rfl) <;> (intro h; simp only [h, Bool.not_true, Bool.not_false]; (try with_reducible (refine ⟨rfl, ?_⟩)); try simp only [decide_eq_true_eq, decide_eq_false_iff_not, Bool.not_eq_true', Bool.not_eq_false', Bool.not_true, Bool.not_false] at h; try exact absurd trivial h)))
           | ((with_reducible (show evG _ _ _ _ _)); first
             | (with_reducible apply go_seq)
             | (with_reducible apply go_region)
             | ((with_reducible apply go_cond_f); rfl; rfl)
             | (((with_reducible apply go_cond); rfl) <;> (intro h; simp only [h]; try simp only [decide_eq_true_eq, decide_eq_false_iff_not, Bool.not_eq_true', Bool.not_eq_false', Bool.not_true, Bool.not_false] at h; try exact absurd trivial h))
             | (with_reducible apply go_ret)
             | (with_reducible apply go_skipc))
           | (with_reducible apply go_kseq)
           | (with_reducible apply go_kseq_ret)
           | ((with_reducible apply end_bool); rfl)
           | (with_reducible rfl)
    all_goals first
      | (exfalso; omega)
      | (simp; done)
      | trace_state
end Go.Pv.Geo

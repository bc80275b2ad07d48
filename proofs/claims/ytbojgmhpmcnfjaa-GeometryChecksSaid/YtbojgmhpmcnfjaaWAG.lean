import Derived.Test.YtbojgmhpmcnfjaaProg
import Derived.Test.YtbojgmhpmcnfjaaWAF
import Derived.Test.YtbojgmhpmcnfjaaWAD
import Derived.KernelRfl
import Derived.Test.YtbojgmhpmcnfjaaWAE
import Derived.Shelf.SlLaysF0
/- Part of the proofs over Ytbojgmhpmcnfjaa: JH, JI, H4, JO, JQ, H7, JS, JK, JP, JLT, JT, JU. -/
set_option linter.unusedVariables false
set_option linter.unusedSimpArgs false
set_option linter.unnecessarySimpa false
open Go Go.Proofs Go.Pv
set_option maxHeartbeats 8000000
set_option maxRecDepth 100000
set_option linter.unusedSimpArgs false
set_option linter.unusedVariables false
namespace Go.Pv.Geo
theorem c_Clone (l : List Pt) (hl : l.length ≤ 1000000000) : Contract Try.prog 107 [.sl (l.map encPt)] (.ret (.fr 2 (l.map encPt))) := by
  by_cases h0 : 0 < l.length
  · refine contract_of mix Try.func107 rfl rfl (by rw [Try.ntmps107]; exact Nat.le_of_ble_eq_true rfl) ?_; rw [Try.results107, Try.ntmps107]; simp only [argsE, Nat.reduceAdd]
    repeat' first
           | (with_reducible apply go_op)
           | (with_reducible apply go_next)
           | ((with_reducible (show evOp _ _ _ _ _ _)); first
             | ((with_reducible (show evOp _ (.move _) _ _ _ _)) ; first | ((with_reducible apply go_mv_sl); rfl; rfl) | ((with_reducible apply go_mv_nilsl); rfl; rfl))
             | ((with_reducible apply go_as)))
           | ((with_reducible (show evOps _ _ _ _ _ _)); first
             | (with_reducible apply go_nil))
           | ((with_reducible (show evG _ _ _ _ _)); first
             | (with_reducible apply go_seq)
             | (with_reducible apply go_region))
           | (with_reducible apply go_kseq)
    refine go_nileq_sl (f := encPt) rfl h0 rfl ?_
    repeat' first
           | (with_reducible apply go_op)
           | (with_reducible apply go_next)
           | ((with_reducible (show evOp _ _ _ _ _ _)); first
             | (((with_reducible apply go_mv_sl); rfl; rfl))
             | (((with_reducible apply go_bs0); rfl)))
           | ((with_reducible (show evOps _ _ _ _ _ _)); first
             | (with_reducible apply go_nil))
           | ((with_reducible (show evG _ _ _ _ _)); first
             | (with_reducible apply go_seq)
             | (with_reducible apply go_region)
             | ((with_reducible apply go_cond_f); rfl; rfl)
             | (with_reducible apply go_skipc))
           | (with_reducible apply go_kseq)
    refine go_app_sl (f := encPt) scalPt rfl rfl rfl (fun _ => rfl) (by kernel_rfl) (by kernel_rfl) hl rfl ?_
    repeat' first
           | (with_reducible apply go_op)
           | (with_reducible apply go_next)
           | ((with_reducible (show evOp _ _ _ _ _ _)); first
             | (((with_reducible apply go_mv_os); rfl; rfl))
             | ((with_reducible apply go_as)))
           | ((with_reducible (show evOps _ _ _ _ _ _)); first
             | (with_reducible apply go_nil))
           | ((with_reducible (show evG _ _ _ _ _)); first
             | (with_reducible apply go_ret))
           | (with_reducible apply go_kseq)
    exact end_frn rfl rfl rfl rfl
  · have hnil : l = [] := List.eq_nil_of_length_eq_zero (by omega)
    subst hnil
    refine contract_of mix Try.func107 rfl rfl (by rw [Try.ntmps107]; exact Nat.le_of_ble_eq_true rfl) ?_; rw [Try.results107, Try.ntmps107]; simp only [argsE, Nat.reduceAdd]
    repeat' first
           | (with_reducible apply go_op)
           | (with_reducible apply go_next)
           | ((with_reducible (show evOp _ _ _ _ _ _)); first
             | ((with_reducible (show evOp _ (.move _) _ _ _ _)) ; first | ((with_reducible apply go_mv_sl); rfl; rfl) | ((with_reducible apply go_mv_nilsl); rfl; rfl))
             | ((with_reducible apply go_as)))
           | ((with_reducible (show evOps _ _ _ _ _ _)); first
             | (with_reducible apply go_nil))
           | ((with_reducible (show evG _ _ _ _ _)); first
             | (with_reducible apply go_seq)
             | (with_reducible apply go_region))
           | (with_reducible apply go_kseq)
    refine go_nilcmp (bs := [true, false]) ?_ rfl ?_ rfl rfl ?_
    · simp only [op0]; rfl
    · rfl
    · intro b hb
      simp only [List.mem_cons, List.not_mem_nil, or_false] at hb
      rcases hb with rfl | rfl
      · repeat' first
           | (with_reducible apply go_op)
           | (with_reducible apply go_next)
           | ((with_reducible (show evOp _ _ _ _ _ _)); first
             | (((with_reducible apply go_mv_nilsl); rfl; rfl))
             | ((with_reducible apply go_as)))
           | ((with_reducible (show evOps _ _ _ _ _ _)); first
             | (with_reducible apply go_nil))
           | ((with_reducible (show evG _ _ _ _ _)); first
             | (with_reducible apply go_seq)
             | (with_reducible apply go_region)
             | ((with_reducible apply go_cond_t); rfl; rfl)
             | (with_reducible apply go_ret))
           | (with_reducible apply go_kseq)
           | (with_reducible apply go_kseq_ret)
        exact finK_ret (fin_nil1 rfl)
      · repeat' first
           | (with_reducible apply go_op)
           | (with_reducible apply go_next)
           | ((with_reducible (show evOp _ _ _ _ _ _)); first
             | (((with_reducible apply go_mv_sl); rfl; rfl))
             | (((with_reducible apply go_bs0); rfl)))
           | ((with_reducible (show evOps _ _ _ _ _ _)); first
             | (with_reducible apply go_nil))
           | ((with_reducible (show evG _ _ _ _ _)); first
             | (with_reducible apply go_seq)
             | (with_reducible apply go_region)
             | ((with_reducible apply go_cond_f); rfl; rfl)
             | (with_reducible apply go_skipc))
           | (with_reducible apply go_kseq)
        refine go_app_sl (f := encPt) (l := []) scalPt rfl rfl rfl (fun _ => rfl) (by kernel_rfl) (by kernel_rfl) (by simp) rfl ?_
        repeat' first
           | (with_reducible apply go_op)
           | (with_reducible apply go_next)
           | ((with_reducible (show evOp _ _ _ _ _ _)); first
             | (((with_reducible apply go_mv_os); rfl; rfl))
             | ((with_reducible apply go_as)))
           | ((with_reducible (show evOps _ _ _ _ _ _)); first
             | (with_reducible apply go_nil))
           | ((with_reducible (show evG _ _ _ _ _)); first
             | (with_reducible apply go_ret))
           | (with_reducible apply go_kseq)
        exact end_frn rfl rfl rfl rfl
/-- The hull of places: their list put in order, each once. -/
def ordL (l : List Pt) : List Pt := compL (sortPts l)
def hullR (l : List Pt) : List Pt := if (ordL l).length < 2 then ordL l else hullL (ordL l)
theorem sort_len (l : List Pt) : (sortPts l).length = l.length := List.length_mergeSort l
theorem ord_len (l : List Pt) : (ordL l).length ≤ l.length := by
  have := compT_le (sortPts l) (sortPts l).length
  unfold ordL compL
  rw [sort_len] at this ⊢; exact this
theorem sort_mem (l : List Pt) (p : Pt) : p ∈ sortPts l ↔ p ∈ l := List.mem_mergeSort
theorem comp_mem {l : List Pt} {p : Pt} (h : p ∈ compL l) : p ∈ l := by
  unfold compL compT at h
  obtain ⟨i, hi, rfl⟩ := List.mem_map.1 h
  have := (List.mem_filter.1 hi).1
  have hi := List.mem_range.1 this
  rw [List.getD_eq_getElem?_getD, List.getElem?_eq_getElem hi]
  exact List.getElem_mem hi
theorem ord_sub {l : List Pt} {p : Pt} (h : p ∈ ordL l) : p ∈ l := (sort_mem l p).1 (comp_mem h)
theorem chain_snoc (l : List Pt) (p : Pt) : chain (l ++ [p]) = p :: popS p (chain l) := by simp [chain, List.foldl_append]
theorem chain_take {l : List Pt} {k : Nat} (hk : k < l.length) : chain (l.take (k + 1)) = l[k] :: popS l[k] (chain (l.take k)) := by
  rw [List.take_add_one, List.getElem?_eq_getElem hk]
  exact chain_snoc _ _
theorem popS_len (p : Pt) : ∀ t : List Pt, (popS p t).length ≤ t.length
  | [] => Nat.le_refl _
  | [a] => Nat.le_refl _
  | b :: a :: t => by
    rw [popS]; split
    · have := popS_len p (a :: t); simp only [List.length_cons] at *; omega
    · exact Nat.le_refl _
theorem chain_len (l : List Pt) (k : Nat) (hk : k ≤ l.length) : (chain (l.take k)).length ≤ k := by
  induction k with
  | zero => simp [chain]
  | succ k ih =>
    rw [chain_take (by omega)]
    have := popS_len l[k] (chain (l.take k))
    have := ih (by omega)
    simp only [List.length_cons]; omega
theorem chain_mem {l : List Pt} {k : Nat} (hk : k ≤ l.length) {p : Pt} (h : p ∈ chain (l.take k)) : p ∈ l := by
  induction k with
  | zero => simp [chain] at h
  | succ k ih =>
    rw [chain_take (by omega)] at h
    rcases List.mem_cons.1 h with rfl | h
    · exact List.getElem_mem _
    · exact ih (by omega) (pop_mem h)
def outO (d : List Pt) : Nat → List Pt
  | 0 => []
  | 1 => (chain d).tail.reverse
  | _ => hullL d
def outL (d : List Pt) : Nat → List Pt
  | 0 => d
  | 1 => d.reverse
  | _ => d
theorem out_step (d : List Pt) {i : Nat} (hi : i < 2) : outO d (i + 1) = outO d i ++ (chain (outL d i)).tail.reverse ∧ outL d (i + 1) = (outL d i).reverse := by
  match i, hi with
  | 0, _ => exact ⟨rfl, rfl⟩
  | 1, _ => exact ⟨rfl, (List.reverse_reverse d).symm⟩
theorem outL_len (d : List Pt) (i : Nat) : (outL d i).length = d.length := by
  unfold outL; split <;> simp
theorem outL_mem (d : List Pt) (i : Nat) {p : Pt} (h : p ∈ outL d i) : p ∈ d := by
  unfold outL at h; split at h
  · exact h
  · simpa using h
  · exact h
/-- The rows of the corners' list while places are popped: two corners below the top. -/
theorem rows_two {base t u : List Pt} {a b : Pt} {R : List Pt} (hR : R = base ++ (u ++ b :: a :: t).reverse) : ∃ h : base.length + t.length + 1 < R.length, R[base.length + t.length]'(by omega) = a ∧ R[base.length + t.length + 1] = b := by
  have e : R = (base ++ t.reverse) ++ (a :: b :: u.reverse) := by rw [hR]; simp
  subst e
  refine ⟨by simp only [List.length_append, List.length_reverse, List.length_cons]; omega, ?_, ?_⟩
  · rw [List.getElem_append_right (by simp)]; simp
  · rw [List.getElem_append_right (by simp)]; simp
theorem rows_take {base s u : List Pt} {R : List Pt} (hR : R = base ++ (u ++ s).reverse) : R.take (base.length + s.length) = base ++ s.reverse := by
  have e : R = (base ++ s.reverse) ++ u.reverse := by rw [hR]; simp
  rw [e, List.take_append_of_le_length (by simp), List.take_of_length_le (by simp)]
theorem c_hull (l : List Pt) (hl : l.length ≤ 1000000) (hok : ∀ p ∈ l, ptOK p = true) : Contract Try.prog 78 [.sl (l.map encPt)] (.ret (.fr 2 ((hullR l).map encPt))) := by
  have y1 := c_Clone l (by omega)
  have y2 : ContractM Try.prog 108 [.os 0 0 l.length, .clo (.func 109) [] []] ⟨2, true, l.map encPt⟩ (.tup []) ⟨2, true, (sortPts l).map encPt⟩ := c_SortFunc l (by omega)
  have hsl := sort_len l
  have y3 : ContractM Try.prog 110 [.os 0 0 l.length] ⟨2, true, (sortPts l).map encPt⟩ (.os 0 0 (ordL l).length) ⟨2, true, (ordL l).map encPt⟩ := by
    have := c_Compact (sortPts l) (by omega)
    rw [hsl] at this; exact this
  refine contract_of mix Try.func78 rfl rfl (by rw [Try.ntmps78]; exact Nat.le_of_ble_eq_true rfl) ?_; rw [Try.results78, Try.ntmps78]; simp only [argsE, Nat.reduceAdd]
  repeat' first
           | ((with_reducible (show evG _ _ (.region 2 _ _) _ _)); (with_reducible apply go_regionM))
           | ((with_reducible (show evG _ _ (.region 3 _ _) _ _)); (with_reducible apply go_regionM))
           | ((with_reducible apply (goM_call (b := 64))); rfl; rfl; (exact scalR_pts _); rfl; rfl; (exact y2); rfl; rfl)
           | ((with_reducible apply (goM_call (b := 64))); rfl; rfl; (exact scalR_pts _); rfl; rfl; (exact y3); rfl; rfl)
           | (with_reducible apply goM_op)
           | (with_reducible apply goM_next)
           | (with_reducible apply goM_nil)
           | (with_reducible apply go_op)
           | (with_reducible apply go_next)
           | ((with_reducible (show evOp _ _ _ _ _ _)); first
             | ((with_reducible (show evOp _ (.move _) _ _ _ _)) ; first | ((with_reducible apply go_mv_int); rfl; rfl) | ((with_reducible apply go_mv_sl); rfl; rfl) | ((with_reducible apply go_mv_os); rfl; rfl) | ((with_reducible apply go_mv_nilsl); rfl; rfl))
             | ((with_reducible apply go_as))
             | (((with_reducible apply go_cmp); rfl; rfl; rfl; rfl))
             | ((with_reducible (show evOp _ (.call _) _ _ _ _)) ; first | ((with_reducible apply go_len_own); rfl; rfl; rfl) | ((with_reducible apply go_fn_fr); rfl; (exact y1); (exact scalPt); rfl)))
           | ((with_reducible (show evOps _ _ _ _ _ _)); first
             | (with_reducible apply go_nil))
           | ((with_reducible (show evG _ _ _ _ _)); first
             | (with_reducible apply go_seq)
             | (with_reducible apply go_region)
             | (((with_reducible apply go_cond); rfl) <;> (intro h; simp only [h]; try simp only [decide_eq_true_eq, decide_eq_false_iff_not, Bool.not_eq_true', Bool.not_eq_false', Bool.not_true, Bool.not_false] at h; try exact absurd trivial h))
             | (with_reducible apply go_ret)
             | (with_reducible apply go_skipc)
             | (with_reducible apply go_block))
           | (with_reducible apply go_kseq)
           | (with_reducible apply go_kseq_ret)
  · exact end_frn rfl (by kernel_rfl) rfl (if_pos (by omega)).symm
  have hol := ord_len l
  have hres : hullR l = outO (ordL l) 2 := if_neg (by omega)
  rw [hres]
  have hokd : ∀ p ∈ ordL l, ptOK p = true := fun p hp => hok p (ord_sub hp)
  clear y1 y2 y3 hsl hres
  generalize ordL l = d at *
  refine go_count 2 (fun i => ⟨[(3, .os 1 0 (outO d i).length), (17, .int .i64 i), (0, .os 0 0 d.length)], [(1, ⟨2, true, (outO d i).map encPt⟩), (0, ⟨2, true, (outL d i).map encPt⟩)], 32, 68⟩) (fun i => (outO d i).length ≤ i * d.length)
    (entails_eq (nx := 32) (k := 2) (ns := [(3, 1)]) (ks := [17, 0]) [(64, 0)] rfl (by intro p hp; obtain rfl : p = (3, 1) := (by simpa using hp); kernel_rfl) (by kernel_rfl)) (by simp [outO]) ?_
  intro i hi hC
  by_cases hlt : i < 2
  rotate_left
  · have e : i = 2 := by omega
    subst e
    repeat' first
           | (with_reducible apply go_op)
           | (with_reducible apply go_next)
           | ((with_reducible (show evOp _ _ _ _ _ _)); first
             | (((with_reducible apply go_mv_os); rfl; rfl))
             | ((with_reducible apply go_as))
             | (((with_reducible apply go_cmp); rfl; rfl; rfl; rfl)))
           | ((with_reducible (show evOps _ _ _ _ _ _)); first
             | (with_reducible apply go_nil))
           | ((with_reducible (show evG _ _ _ _ _)); first
             | (with_reducible apply go_seq)
             | (with_reducible apply go_region)
             | ((with_reducible apply go_cond_f); rfl; rfl)
             | (with_reducible apply go_ret)
             | (with_reducible apply go_exit))
           | (with_reducible apply go_kseq)
           | (with_reducible apply go_kblock_exit)
           | (with_reducible apply go_kseq_exit)
    all_goals first
      | (exfalso; omega)
      | exact end_frn rfl rfl rfl rfl
      | trace_state
  have hs := out_step d hlt
  have hL := outL_len d i
  have hLm := fun p (hp : p ∈ outL d i) => hokd p (outL_mem d i hp)
  rw [hs.1, hs.2]
  clear hs
  generalize outO d i = base at *
  generalize outL d i = d' at *
  repeat' first
           | (with_reducible apply go_op)
           | (with_reducible apply go_next)
           | ((with_reducible (show evOp _ _ _ _ _ _)); first
             | ((with_reducible (show evOp _ (.move _) _ _ _ _)) ; first | ((with_reducible apply go_mv_int); rfl; rfl) | ((with_reducible apply go_mv_os); rfl; rfl))
             | ((with_reducible apply go_as))
             | (((with_reducible apply go_cmp); rfl; rfl; rfl; rfl))
             | (((with_reducible apply go_len_own); rfl; rfl; rfl)))
           | ((with_reducible (show evOps _ _ _ _ _ _)); first
             | (with_reducible apply go_nil))
           | ((with_reducible (show evG _ _ _ _ _)); first
             | (with_reducible apply go_seq)
             | (with_reducible apply go_region)
             | (((with_reducible apply go_cond); rfl) <;> (intro h; simp only [h]; try simp only [decide_eq_true_eq, decide_eq_false_iff_not, Bool.not_eq_true', Bool.not_eq_false', Bool.not_true, Bool.not_false] at h; try exact absurd trivial h))
             | (with_reducible apply go_ret)
             | (with_reducible apply go_skipc)
             | (with_reducible apply go_block)
             | (with_reducible apply go_exit))
           | (with_reducible apply go_kseq)
           | (with_reducible apply go_kblock_exit)
           | (with_reducible apply go_kseq_exit)
  all_goals try (exfalso; omega)
  refine go_count d.length (fun k => ⟨[(23, .int .i64 k), (22, .int .i64 d.length), (21, .os 0 0 d.length), (17, .int .i64 i), (4, .int .i64 base.length), (3, .os 1 0 (base.length + (chain (d'.take k)).length)), (0, .os 0 0 d.length)], [(1, ⟨2, true, (base ++ (chain (d'.take k)).reverse).map encPt⟩), (0, ⟨2, true, d'.map encPt⟩)], 32, 68⟩) (fun k => True)
    (entails_eq (nx := 32) (k := 0) (ns := []) (ks := [23, 22, 21, 17, 4, 3, 0]) [(1, 1), (0, 0)] rfl (by simp) (by rw [show base ++ (chain (d'.take 0)).reverse = base by simp [chain]]; kernel_rfl)) trivial ?_
  intro k hk _
  by_cases hkl : k < d.length
  rotate_left
  · have e : k = d.length := by omega
    have hcl := chain_len d' d'.length (Nat.le_refl _)
    rw [List.take_length] at hcl
    obtain ⟨x, t, hxt⟩ : ∃ x t, chain d' = x :: t := by
      have h1 := chain_take (l := d') (k := d'.length - 1) (by omega)
      rw [show d'.length - 1 + 1 = d'.length by omega, List.take_length] at h1
      exact ⟨_, _, h1⟩
    have yr : ContractM Try.prog 111 [.os 0 0 d.length] ⟨2, true, d'.map encPt⟩ (.tup []) ⟨2, true, d'.reverse.map encPt⟩ := by
      have := c_Reverse d' (by omega)
      rw [hL] at this; exact this
    rw [show d'.take k = d' by rw [List.take_of_length_le (by omega)], hxt]
    rw [hxt, List.length_cons] at hcl
    have htk : ((base ++ (x :: t).reverse).map encPt).take (base.length + t.length) = (base ++ t.reverse).map encPt := by
      rw [← List.map_take]
      congr 1
      exact rows_take (base := base) (s := t) (u := [x]) rfl
    simp only [List.length_cons, List.tail_cons]
    have hb2 : i * d.length ≤ 2 * d.length := Nat.mul_le_mul_right _ hi
    repeat' first
           | ((with_reducible (show evG _ _ (.region 18 _ _) _ _)); (with_reducible apply go_regionM))
           | ((with_reducible apply (goM_call (b := 0))); rfl; rfl; (exact scalR_pts _); rfl; rfl; (exact yr); rfl; rfl)
           | (with_reducible apply goM_op)
           | (with_reducible apply goM_next)
           | (with_reducible apply goM_nil)
           | (with_reducible apply go_op)
           | (with_reducible apply go_next)
           | ((with_reducible (show evOp _ _ _ _ _ _)); first
             | ((with_reducible (show evOp _ (.move _) _ _ _ _)) ; first | ((with_reducible apply go_mv_int); rfl; rfl) | ((with_reducible apply go_mv_os); rfl; rfl))
             | ((with_reducible apply go_as))
             | (((with_reducible apply go_load_om); rfl; rfl; rfl; rfl; rotate_left; assumption))
             | (((with_reducible apply go_index_om); rfl; rfl; rfl; (with_reducible rfl); rfl; rfl; omega; (intro hlt)))
             | ((with_reducible (show evOp _ (.binOp _ _ _ _ _) _ _ _ _)) ; first | ((with_reducible apply go_cmp); rfl; rfl; rfl; rfl) | ((with_reducible apply go_add); rfl; rfl; rfl; omega) | ((with_reducible apply go_sub); rfl; rfl; rfl; omega))
             | (((with_reducible apply go_len_own); rfl; rfl; rfl))
             | (((with_reducible apply go_st_agg); rfl; rfl; rfl; rfl; rfl; rfl; rfl))
             | (((with_reducible apply go_take_os); rfl; rfl; rfl; rfl; rfl; omega))
             | (((with_reducible apply go_alloc); rfl; rfl; rfl)))
           | ((with_reducible (show evOps _ _ _ _ _ _)); first
             | (with_reducible apply go_nil))
           | ((with_reducible (show evG _ _ _ _ _)); first
             | (with_reducible apply go_seq)
             | (with_reducible apply go_region)
             | (((with_reducible apply go_cond); rfl) <;> (intro h; simp only [h]; try simp only [decide_eq_true_eq, decide_eq_false_iff_not, Bool.not_eq_true', Bool.not_eq_false', Bool.not_true, Bool.not_false] at h; try exact absurd trivial h))
             | (with_reducible apply go_skipc)
             | (with_reducible apply go_block)
             | (with_reducible apply go_exit))
           | (with_reducible apply go_kseq)
           | (with_reducible apply go_kblock)
           | (with_reducible apply go_kblock_exit)
           | (with_reducible apply go_kseq_exit)
    all_goals try (exfalso; omega)
    refine ⟨by omega, by rw [List.length_append, List.length_reverse, Nat.add_mul, Nat.one_mul]; omega, ?_⟩
    refine Entails.trans (entails_take (b := 1) (base.length + t.length) rfl) ?_
    have en : (((base.length + (t.length + 1) : Nat) : Int) - 1).toNat = (base ++ t.reverse).length := by rw [List.length_append, List.length_reverse]; omega
    rw [en]
    show Entails ⟨_, updH 1 ⟨2, true, ((base ++ (x :: t).reverse).map encPt).take (base.length + t.length)⟩ _, _, _⟩ _
    rw [htk]
    exact entails_eq (nx := 32) (k := 0) (ns := []) (ks := [3, 17, 0]) [(1, 1), (0, 0)] rfl (by simp) (by kernel_rfl)
  have hlt' : k < d'.length := by omega
  have hct := chain_take hlt'
  have hcl := chain_len d' k (by omega)
  have hcm := fun p (hp : p ∈ chain (d'.take k)) => hLm p (chain_mem (by omega) hp)
  have hpo := hLm d'[k] (List.getElem_mem _)
  rw [hct]
  generalize chain (d'.take k) = s0 at *
  generalize hpk : d'[k] = p at *
  repeat' first
           | (with_reducible apply go_op)
           | (with_reducible apply go_next)
           | ((with_reducible (show evOp _ _ _ _ _ _)); first
             | (((with_reducible apply go_mv_os); rfl; rfl))
             | ((with_reducible apply go_as))
             | (((with_reducible apply go_load_om); rfl; rfl; rfl; rfl; rotate_left; assumption))
             | (((with_reducible apply go_index_om); rfl; rfl; rfl; (with_reducible rfl); rfl; rfl; omega; (intro hlt)))
             | ((with_reducible (show evOp _ (.binOp _ _ _ _ _) _ _ _ _)) ; first | ((with_reducible apply go_cmp); rfl; rfl; rfl; rfl) | ((with_reducible apply go_sub); rfl; rfl; rfl; omega))
             | (((with_reducible apply go_len_own); rfl; rfl; rfl))
             | (((with_reducible apply go_st_agg); rfl; rfl; rfl; rfl; rfl; rfl; rfl))
             | (((with_reducible apply go_take_os); rfl; rfl; rfl; rfl; rfl; omega))
             | (((with_reducible apply go_alloc); rfl; rfl; rfl)))
           | ((with_reducible (show evOps _ _ _ _ _ _)); first
             | (with_reducible apply go_nil))
           | ((with_reducible (show evG _ _ _ _ _)); first
             | (with_reducible apply go_seq)
             | (with_reducible apply go_region)
             | (((with_reducible apply go_cond); rfl) <;> (intro h; simp only [h]; try simp only [decide_eq_true_eq, decide_eq_false_iff_not, Bool.not_eq_true', Bool.not_eq_false', Bool.not_true, Bool.not_false] at h; try exact absurd trivial h))
             | (with_reducible apply go_skipc)
             | (with_reducible apply go_block)
             | (with_reducible apply go_exit))
           | (with_reducible apply go_kseq)
           | (with_reducible apply go_kblock_exit)
           | (with_reducible apply go_kseq_exit)
  all_goals try (exfalso; omega)
  have hb2 : i * d.length ≤ 2 * d.length := Nat.mul_le_mul_right _ hi
  refine go_while (σ := List Pt) List.length (fun s => ⟨[(6, .op 2 0 0), (23, .int .i64 k), (22, .int .i64 d.length), (21, .os 0 0 d.length), (17, .int .i64 i), (4, .int .i64 base.length), (3, .os 1 0 (base.length + s.length)), (0, .os 0 0 d.length)], [(1, ⟨2, true, (base ++ s0.reverse).map encPt⟩), (0, ⟨2, true, d'.map encPt⟩), (2, ⟨2, true, [encPt p]⟩)], 32, 68⟩) (fun s => ∃ u, s0 = u ++ s ∧ popS p s = popS p s0) s0
    (entails_eq (nx := 32) (k := 0) (ns := []) (ks := [6, 23, 22, 21, 17, 4, 3, 0]) [(1, 1), (0, 0), (128, 2)] rfl (by simp) (by rw [← hpk]; kernel_rfl)) ⟨[], rfl, rfl⟩ ?_
  rintro s ⟨u, hu, hpop⟩
  have hsl : s.length ≤ s0.length := by rw [hu, List.length_append]; omega
  have hR : base ++ s0.reverse = base ++ (u ++ s).reverse := by rw [hu]
  have hRt := rows_take (s := s) hR
  have hRl : (base ++ s0.reverse).length = base.length + s0.length := by simp
  have hend : popS p s0 = s → base ++ (p :: popS p s0).reverse = (base ++ s0.reverse).take (base.length + s.length) ++ [p] := fun e => by rw [hRt, e]; simp
  generalize base ++ s0.reverse = R at *
  match s, hu, hpop, hsl, hR, hRt, hend with
  | [], hu, hpop, hsl, hR, hRt, hend =>
    have e := hend (by rw [← hpop]; rfl)
    have hlen : (popS p s0).length = 0 := by rw [← hpop]; rfl
    simp only [List.length_nil] at *
    repeat' first
           | (with_reducible apply go_op)
           | (with_reducible apply go_next)
           | ((with_reducible (show evOp _ _ _ _ _ _)); first
             | ((with_reducible (show evOp _ (.move _) _ _ _ _)) ; first | ((with_reducible apply go_mv_int); rfl; rfl) | ((with_reducible apply go_mv_bool); rfl; rfl) | ((with_reducible apply go_mv_os); rfl; rfl))
             | (((with_reducible apply go_ld_agg); rfl; rfl; rfl; rfl))
             | (((with_reducible apply go_index_own); rfl; rfl; rfl; rfl; rfl; omega))
             | ((with_reducible (show evOp _ (.binOp _ _ _ _ _) _ _ _ _)) ; first | ((with_reducible apply go_cmp); rfl; rfl; rfl; rfl) | ((with_reducible apply go_add); rfl; rfl; rfl; omega) | ((with_reducible apply go_sub); rfl; rfl; rfl; omega))
             | (((with_reducible apply go_len_own); rfl; rfl; rfl))
             | (((with_reducible apply go_pick); rfl; rfl; rfl))
             | (((with_reducible apply go_bs1_agg); rfl; rfl; rfl; rfl; rfl; rfl)))
           | ((with_reducible (show evOps _ _ _ _ _ _)); first
             | (with_reducible apply go_nil)
             | ((with_reducible apply go_run); rfl; rfl)
             | ((with_reducible apply go_pass); rfl; rfl; rfl)
             | (((with_reducible apply go_guard); rfl) <;> (intro h; simp only [h, Bool.not_true, Bool.not_false]; (try with_reducible (refine ⟨rfl, ?_⟩)); try simp only [decide_eq_true_eq, decide_eq_false_iff_not, Bool.not_eq_true', Bool.not_eq_false', Bool.not_true, Bool.not_false] at h; try exact absurd trivial h))
             | ((with_reducible apply go_pre); rfl)
             | (with_reducible apply go_pre_nil)
             | ((with_reducible apply go_suf); rfl)
             | (with_reducible apply go_suf_nil))
           | ((with_reducible (show evG _ _ _ _ _)); first
             | (with_reducible apply go_seq)
             | (with_reducible apply go_region)
             | ((with_reducible apply go_cond_f); rfl; rfl)
             | ((with_reducible apply go_order); kernel_rfl; rfl)
             | (with_reducible apply go_exit))
           | (with_reducible apply go_kseq)
           | (with_reducible apply go_ksuf)
           | (with_reducible apply go_kblock_exit)
           | (with_reducible apply go_kseq_exit)
    all_goals try (exfalso; omega)
    refine go_app_mapt (f := encPt) (a := p) (l := R) (len := base.length + 0) scalPt rfl rfl rfl (by omega) rfl (by kernel_rfl) (by kernel_rfl) (by kernel_rfl) (by omega) rfl ?_
    rw [← e]
    repeat' first
           | (with_reducible apply go_op)
           | (with_reducible apply go_next)
           | ((with_reducible (show evOp _ _ _ _ _ _)); first
             | ((with_reducible (show evOp _ (.move _) _ _ _ _)) ; first | ((with_reducible apply go_mv_int); rfl; rfl) | ((with_reducible apply go_mv_os); rfl; rfl))
             | ((with_reducible apply go_as))
             | (((with_reducible apply go_add); rfl; rfl; rfl; omega)))
           | ((with_reducible (show evOps _ _ _ _ _ _)); first
             | (with_reducible apply go_nil))
           | ((with_reducible (show evG _ _ _ _ _)); first
             | (with_reducible apply go_region))
           | (with_reducible apply go_kseq)
           | (with_reducible apply go_kblock)
    refine ⟨by omega, trivial, ?_⟩
    rw [show base.length + (p :: popS p s0).length = (base.length + 0) + 1 by rw [List.length_cons, hlen]]
    exact entails_eq (nx := 32) (k := 0) (ns := []) (ks := [23, 22, 21, 17, 4, 3, 0]) [(1, 1), (0, 0)] rfl (by simp) (by kernel_rfl)
  | [a], hu, hpop, hsl, hR, hRt, hend =>
    have e := hend (by rw [← hpop]; rfl)
    have hlen : (popS p s0).length = 1 := by rw [← hpop]; rfl
    simp only [List.length_cons, List.length_nil] at *
    repeat' first
           | (with_reducible apply go_op)
           | (with_reducible apply go_next)
           | ((with_reducible (show evOp _ _ _ _ _ _)); first
             | ((with_reducible (show evOp _ (.move _) _ _ _ _)) ; first | ((with_reducible apply go_mv_int); rfl; rfl) | ((with_reducible apply go_mv_bool); rfl; rfl) | ((with_reducible apply go_mv_os); rfl; rfl))
             | (((with_reducible apply go_ld_agg); rfl; rfl; rfl; rfl))
             | (((with_reducible apply go_index_own); rfl; rfl; rfl; rfl; rfl; omega))
             | ((with_reducible (show evOp _ (.binOp _ _ _ _ _) _ _ _ _)) ; first | ((with_reducible apply go_cmp); rfl; rfl; rfl; rfl) | ((with_reducible apply go_add); rfl; rfl; rfl; omega) | ((with_reducible apply go_sub); rfl; rfl; rfl; omega))
             | (((with_reducible apply go_len_own); rfl; rfl; rfl))
             | (((with_reducible apply go_pick); rfl; rfl; rfl))
             | (((with_reducible apply go_bs1_agg); rfl; rfl; rfl; rfl; rfl; rfl)))
           | ((with_reducible (show evOps _ _ _ _ _ _)); first
             | (with_reducible apply go_nil)
             | ((with_reducible apply go_run); rfl; rfl)
             | ((with_reducible apply go_pass); rfl; rfl; rfl)
             | (((with_reducible apply go_guard); rfl) <;> (intro h; simp only [h, Bool.not_true, Bool.not_false]; (try with_reducible (refine ⟨rfl, ?_⟩)); try simp only [decide_eq_true_eq, decide_eq_false_iff_not, Bool.not_eq_true', Bool.not_eq_false', Bool.not_true, Bool.not_false] at h; try exact absurd trivial h))
             | ((with_reducible apply go_pre); rfl)
             | (with_reducible apply go_pre_nil)
             | ((with_reducible apply go_suf); rfl)
             | (with_reducible apply go_suf_nil))
           | ((with_reducible (show evG _ _ _ _ _)); first
             | (with_reducible apply go_seq)
             | (with_reducible apply go_region)
             | ((with_reducible apply go_cond_f); rfl; rfl)
             | ((with_reducible apply go_order); kernel_rfl; rfl)
             | (with_reducible apply go_exit))
           | (with_reducible apply go_kseq)
           | (with_reducible apply go_ksuf)
           | (with_reducible apply go_kblock_exit)
           | (with_reducible apply go_kseq_exit)
    all_goals try (exfalso; omega)
    refine go_app_mapt (f := encPt) (a := p) (l := R) (len := base.length + (0 + 1)) scalPt rfl rfl rfl (by omega) rfl (by kernel_rfl) (by kernel_rfl) (by kernel_rfl) (by omega) rfl ?_
    rw [← e]
    repeat' first
           | (with_reducible apply go_op)
           | (with_reducible apply go_next)
           | ((with_reducible (show evOp _ _ _ _ _ _)); first
             | ((with_reducible (show evOp _ (.move _) _ _ _ _)) ; first | ((with_reducible apply go_mv_int); rfl; rfl) | ((with_reducible apply go_mv_os); rfl; rfl))
             | ((with_reducible apply go_as))
             | (((with_reducible apply go_add); rfl; rfl; rfl; omega)))
           | ((with_reducible (show evOps _ _ _ _ _ _)); first
             | (with_reducible apply go_nil))
           | ((with_reducible (show evG _ _ _ _ _)); first
             | (with_reducible apply go_region))
           | (with_reducible apply go_kseq)
           | (with_reducible apply go_kblock)
    refine ⟨by omega, trivial, ?_⟩
    rw [show base.length + ((popS p s0).length + 1) = (base.length + (0 + 1)) + 1 by rw [hlen]]
    exact entails_eq (nx := 32) (k := 0) (ns := []) (ks := [23, 22, 21, 17, 4, 3, 0]) [(1, 1), (0, 0)] rfl (by simp) (by kernel_rfl)
  | b :: a :: t, hu, hpop, hsl, hR, hRt, hend =>
    obtain ⟨hx, ra, rb⟩ := rows_two hR
    have oka : ptOK a = true := hcm a (by rw [hu]; simp)
    have okb : ptOK b = true := hcm b (by rw [hu]; simp)
    have ia : R[0 + (base.length + t.length)]'(by omega) = a := by simpa using ra
    have ib : R[0 + (base.length + t.length + 1)]'(by omega) = b := by simpa using rb
    have yc := c_cross (R[0 + (base.length + t.length)]'(by omega)) (R[0 + (base.length + t.length + 1)]'(by omega)) p (by rw [ia]; exact oka) (by rw [ib]; exact okb) hpo
    have hcr : crossE (R[0 + (base.length + t.length)]'(by omega)) (R[0 + (base.length + t.length + 1)]'(by omega)) p = crossE a b p := by rw [ia, ib]
    clear ia ib ra rb
    simp only [List.length_cons] at *
    repeat' first
           | ((with_reducible apply (go_index_oq (i := (base.length + t.length)))); rfl; rfl; rfl; omega; rfl; rfl; (exact ⟨by omega, by omega⟩); (intro hlt))
           | ((with_reducible apply (go_index_oq (i := (base.length + t.length + 1)))); rfl; rfl; rfl; omega; rfl; rfl; (exact ⟨by omega, by omega⟩); (intro hlt))
           | (with_reducible apply go_op)
           | (with_reducible apply go_next)
           | ((with_reducible (show evOp _ _ _ _ _ _)); first
             | ((with_reducible (show evOp _ (.move _) _ _ _ _)) ; first | ((with_reducible apply go_mv_int); rfl; rfl) | ((with_reducible apply go_mv_bool); rfl; rfl) | ((with_reducible apply go_mv_os); rfl; rfl))
             | ((with_reducible apply go_as))
             | ((with_reducible (show evOp _ (.load _ _) _ _ _ _)) ; first | ((with_reducible apply go_load_om); rfl; rfl; rfl; rfl; rotate_left; assumption) | ((with_reducible apply go_ld_agg); rfl; rfl; rfl; rfl))
             | ((with_reducible (show evOp _ (.binOp _ _ _ _ _) _ _ _ _)) ; first | ((with_reducible apply go_cmp); rfl; rfl; rfl; rfl) | ((with_reducible apply go_add); rfl; rfl; rfl; omega) | ((with_reducible apply go_sub); rfl; rfl; rfl; omega))
             | ((with_reducible (show evOp _ (.call _) _ _ _ _)) ; first | ((with_reducible apply go_len_own); rfl; rfl; rfl) | ((with_reducible apply go_fn_int); rfl; (exact yc); rfl))
             | (((with_reducible apply go_take_os); rfl; rfl; rfl; rfl; rfl; omega))
             | (((with_reducible apply go_pick); rfl; rfl; rfl))
             | (((with_reducible apply go_bs1_agg); rfl; rfl; rfl; rfl; rfl; rfl)))
           | ((with_reducible (show evOps _ _ _ _ _ _)); first
             | (with_reducible apply go_nil)
             | ((with_reducible apply go_run); rfl; rfl)
             | ((with_reducible apply go_pass); rfl; rfl; rfl)
             | (((with_reducible apply go_guard); rfl) <;> (intro h; simp only [h, Bool.not_true, Bool.not_false]; (try with_reducible (refine ⟨rfl, ?_⟩)); try simp only [decide_eq_true_eq, decide_eq_false_iff_not, Bool.not_eq_true', Bool.not_eq_false', Bool.not_true, Bool.not_false] at h; try exact absurd trivial h))
             | ((with_reducible apply go_pre); rfl)
             | (with_reducible apply go_pre_nil)
             | ((with_reducible apply go_suf); rfl)
             | (with_reducible apply go_suf_nil))
           | ((with_reducible (show evG _ _ _ _ _)); first
             | (with_reducible apply go_seq)
             | (with_reducible apply go_region)
             | ((with_reducible apply go_cond_f); rfl; rfl)
             | (((with_reducible apply go_cond); rfl) <;> (intro h; simp only [h]; try simp only [decide_eq_true_eq, decide_eq_false_iff_not, Bool.not_eq_true', Bool.not_eq_false', Bool.not_true, Bool.not_false] at h; try exact absurd trivial h))
             | ((with_reducible apply go_order); kernel_rfl; rfl)
             | (with_reducible apply go_skipc)
             | (with_reducible apply go_block)
             | (with_reducible apply go_exit))
           | (with_reducible apply go_kseq)
           | (with_reducible apply go_ksuf)
           | (with_reducible apply go_kblock)
           | (with_reducible apply go_kblock_exit)
           | (with_reducible apply go_kseq_exit)
    all_goals try (exfalso; omega)
    · refine ⟨a :: t, by simp, ⟨u ++ [b], by rw [hu]; simp, by rw [← hpop]; conv => rhs; rw [popS, if_pos (by omega)]⟩, ?_⟩
      rw [show (((base.length + (t.length + 1 + 1) : Nat) : Int) - 1).toNat = base.length + (a :: t).length by rw [List.length_cons]; omega]
      exact entails_eq (nx := 32) (k := 0) (ns := []) (ks := [6, 23, 22, 21, 17, 4, 3, 0]) [(1, 1), (0, 0), (2, 2)] rfl (by simp) (by kernel_rfl)
    have hps : popS p s0 = b :: a :: t := by rw [← hpop, popS, if_neg (by omega)]
    have e := hend hps
    have hlen : (popS p s0).length = t.length + 1 + 1 := by rw [hps]; rfl
    refine go_app_mapt (f := encPt) (a := p) (l := R) (len := base.length + (t.length + 1 + 1)) scalPt rfl rfl rfl (by omega) rfl (by kernel_rfl) (by kernel_rfl) (by kernel_rfl) (by omega) rfl ?_
    rw [← e]
    repeat' first
           | (with_reducible apply go_op)
           | (with_reducible apply go_next)
           | ((with_reducible (show evOp _ _ _ _ _ _)); first
             | ((with_reducible (show evOp _ (.move _) _ _ _ _)) ; first | ((with_reducible apply go_mv_int); rfl; rfl) | ((with_reducible apply go_mv_os); rfl; rfl))
             | ((with_reducible apply go_as))
             | (((with_reducible apply go_add); rfl; rfl; rfl; omega)))
           | ((with_reducible (show evOps _ _ _ _ _ _)); first
             | (with_reducible apply go_nil))
           | ((with_reducible (show evG _ _ _ _ _)); first
             | (with_reducible apply go_region))
           | (with_reducible apply go_kseq)
           | (with_reducible apply go_kblock)
    refine ⟨by omega, trivial, ?_⟩
    rw [show base.length + ((popS p s0).length + 1) = (base.length + (t.length + 1 + 1)) + 1 by rw [hlen]; omega]
    exact entails_eq (nx := 32) (k := 0) (ns := []) (ks := [23, 22, 21, 17, 4, 3, 0]) [(1, 1), (0, 0)] rfl (by simp) (by kernel_rfl)
end Go.Pv.Geo

namespace Go.Pv.Geo
open Go Go.Proofs Go.Pv
/- The list in order, each once: strictly ordered, and with the same members; the hull of it. Plain. -/
theorem sort_sorted {l : List Pt} (hok : ∀ p ∈ l, ptOK p = true) : (sortPts l).Pairwise fun a b => key a ≤ key b := by
  have h : (sortPts l).Pairwise fun x y => (!(ltOf aheadE) y x) = true := by
    unfold sortPts sortBy
    refine List.pairwise_mergeSort ?_ ?_ l
    · intro a b c h1 h2
      rw [Bool.not_eq_true'] at *
      exact ahead_swo.ntrans c b a h2 h1
    · intro a b
      cases h : ltOf aheadE b a with
      | false => rfl
      | true =>
        cases h' : ltOf aheadE a b with
        | false => rfl
        | true => have := ahead_swo.trans a b a h' h; rw [ahead_swo.irrefl] at this; cases this
  refine List.Pairwise.imp_of_mem (fun {a b} ha hb hab => ?_) h
  rw [Bool.not_eq_true', ahead_lt, decide_eq_false_iff_not] at hab
  have h1 := hok a ((sort_mem l a).1 ha)
  have h2 := hok b ((sort_mem l b).1 hb)
  have := key_lt h2 h1
  apply Classical.byContradiction
  intro hn
  exact hab (this.1 (by omega))
theorem compT_get {l : List Pt} {m : Nat} (hm : m ≤ l.length) {p : Pt} (h : p ∈ compT l m) : ∃ j, ∃ hj : j < l.length, j < m ∧ p = l[j] := by
  unfold compT at h
  obtain ⟨i, hi, rfl⟩ := List.mem_map.1 h
  have hi := List.mem_range.1 (List.mem_filter.1 hi).1
  exact ⟨i, by omega, hi, by rw [List.getD_eq_getElem?_getD, List.getElem?_eq_getElem (by omega)]; rfl⟩
theorem comp_sorted {l : List Pt} (hok : ∀ p ∈ l, ptOK p = true) (hs : l.Pairwise fun a b => key a ≤ key b) : ∀ m, m ≤ l.length → (compT l m).Pairwise fun a b => key a < key b
  | 0, _ => by simp [compT]
  | m + 1, hm => by
    have ih := comp_sorted hok hs m (by omega)
    cases hk : keepB l m with
    | false => rw [compT_no hk]; exact ih
    | true =>
      rw [compT_yes hk, List.getD_eq_getElem?_getD, List.getElem?_eq_getElem (by omega)]
      refine List.pairwise_append.2 ⟨ih, by simp, fun a ha b hb => ?_⟩
      obtain rfl : b = l[m] := by simpa using hb
      obtain ⟨j, hj, hjm, rfl⟩ := compT_get (m := m) (by omega) ha
      have hm0 : 0 < m := by omega
      rw [keep_iff hm0 (by omega), Bool.not_eq_true'] at hk
      have hne : l[m] ≠ l[m - 1]'(by omega) := fun e => by rw [ptEq_iff.2 e] at hk; cases hk
      have h1 : key l[j] ≤ key (l[m - 1]'(by omega)) := by
        by_cases e : j = m - 1
        · subst e; exact Int.le_refl _
        · exact (List.pairwise_iff_getElem.1 hs) j (m - 1) (by omega) (by omega) (by omega)
      have h2 := (List.pairwise_iff_getElem.1 hs) (m - 1) m (by omega) (by omega) (by omega)
      have h3 : key (l[m - 1]'(by omega)) ≠ key l[m] := fun e => hne (key_inj (hok _ (List.getElem_mem _)) (hok _ (List.getElem_mem _)) e).symm
      omega
theorem comp_all {l : List Pt} : ∀ m, m ≤ l.length → ∀ j, (hj : j < l.length) → j < m → l[j] ∈ compT l m
  | 0, _, j, _, h => by omega
  | m + 1, hm, j, hj, h => by
    have ih := comp_all (l := l) m (by omega)
    cases hk : keepB l m with
    | true =>
      rw [compT_yes hk]
      by_cases e : j = m
      · subst e; rw [List.getD_eq_getElem?_getD, List.getElem?_eq_getElem hj]; simp
      · exact List.mem_append.2 (.inl (ih j hj (by omega)))
    | false =>
      rw [compT_no hk]
      by_cases e : j = m
      · subst e
        have hm0 : 0 < j := by
          apply Classical.byContradiction; intro hn
          have : j = 0 := by omega
          subst this; cases hk
        rw [keep_iff hm0 hj, Bool.not_eq_false'] at hk
        rw [ptEq_iff.1 hk]
        exact ih (j - 1) (by omega) (by omega)
      · exact ih j hj (by omega)
theorem ord_sorted {l : List Pt} (hok : ∀ p ∈ l, ptOK p = true) : (ordL l).Pairwise fun a b => key a < key b :=
  comp_sorted (fun p hp => hok p ((sort_mem l p).1 hp)) (sort_sorted hok) _ (Nat.le_refl _)
theorem ord_mem (l : List Pt) (p : Pt) : p ∈ ordL l ↔ p ∈ l := by
  refine ⟨ord_sub, fun h => ?_⟩
  obtain ⟨j, hj, rfl⟩ := List.getElem_of_mem ((sort_mem l p).2 h)
  exact comp_all _ (Nat.le_refl _) j hj hj
theorem hullR_of {l : List Pt} (hok : ∀ p ∈ l, ptOK p = true) (h2 : 2 ≤ (ordL l).length) : HullOf l (hullR l) ∧ (hullR l).head? = (ordL l).head? := by
  have h := hull_of (L := l) (ord_sorted hok) h2 (fun r => (ord_mem l r).symm)
  rw [show hullR l = hullL (ordL l) from if_neg (by omega)]
  exact h
/-- What the reference's walk finds: the next corner, or the same place where all are one. -/
theorem ord_pos {l : List Pt} (h : 0 < l.length) : 0 < (ordL l).length := by
  have : l[0] ∈ ordL l := (ord_mem l _).2 (List.getElem_mem h)
  exact List.length_pos_of_mem this
theorem hullR_len {l : List Pt} (hok : ∀ p ∈ l, ptOK p = true) : (hullR l).length ≤ l.length := by
  by_cases h2 : 2 ≤ (ordL l).length
  · exact (hullR_of hok h2).1.len'
  · rw [show hullR l = ordL l from if_pos (by omega)]; exact ord_len l
theorem hullR_pos {l : List Pt} (hok : ∀ p ∈ l, ptOK p = true) (h : 0 < l.length) : 0 < (hullR l).length := by
  by_cases h2 : 2 ≤ (ordL l).length
  · have := (hullR_of hok h2).1.len; omega
  · rw [show hullR l = ordL l from if_pos (by omega)]; exact ord_pos h
theorem hullR_mem {l : List Pt} (hok : ∀ p ∈ l, ptOK p = true) {p : Pt} (h : p ∈ hullR l) : p ∈ l := by
  by_cases h2 : 2 ≤ (ordL l).length
  · exact (hullR_of hok h2).1.mem p h
  · rw [show hullR l = ordL l from if_pos (by omega)] at h; exact ord_sub h
theorem hullR_wrap {l : List Pt} (hok : ∀ p ∈ l, ptOK p = true) {j : Nat} (hj : j < (hullR l).length) : wrapS l (hullR l)[j] = (hullR l)[(j + 1) % (hullR l).length]'(Nat.mod_lt _ (by omega)) := by
  by_cases h2 : 2 ≤ (ordL l).length
  · exact wrap_edge ((hullR_of hok h2).1.edge j hj)
  · have e : hullR l = ordL l := if_pos (by omega)
    have hl1 : (hullR l).length = 1 := by rw [e] at hj ⊢; omega
    obtain ⟨q, hq⟩ := List.length_eq_one_iff.1 hl1
    have all : ∀ p ∈ l, p = q := fun p hp => by
      have := (ord_mem l p).2 hp
      rw [← e, hq] at this; simpa using this
    have hj0 : j = 0 := by omega
    subst hj0
    simp only [hq, List.length_singleton, Nat.mod_one, List.getElem_cons_zero]
    unfold wrapS
    have : ∀ (l' : List Pt) (n : Pt), (∀ p ∈ l', p = q) → n = q → l'.foldl (wrapN q) n = q := by
      intro l'
      induction l' with
      | nil => intro n _ hn; exact hn
      | cons a l' ih =>
        intro n ha hn
        rw [List.foldl_cons]
        refine ih _ (fun p hp => ha p (by simp [hp])) ?_
        unfold wrapN; split
        · exact ha a (by simp)
        · exact hn
    exact this l q all rfl
/-- The first place by the order. -/
def minN (f p : Pt) : Pt := if key p < key f then p else f
def minT (l : List Pt) (m : Nat) : Pt := (l.take m).foldl minN (l.getD 0 ⟨0, 0⟩)
theorem minT_step {l : List Pt} {m : Nat} (hm : m < l.length) : minT l (m + 1) = minN (minT l m) l[m] := by
  unfold minT
  rw [List.take_add_one, List.getElem?_eq_getElem hm, List.foldl_append]
  rfl
theorem minT_spec {l : List Pt} (h0 : 0 < l.length) : ∀ m, m ≤ l.length → minT l m ∈ l ∧ ∀ j, (hj : j < l.length) → j < m → key (minT l m) ≤ key l[j]
  | 0, _ => ⟨by simp only [minT, List.take_zero, List.foldl_nil]; rw [List.getD_eq_getElem?_getD, List.getElem?_eq_getElem h0]; exact List.getElem_mem _, fun j _ h => by omega⟩
  | m + 1, hm => by
    have ih := minT_spec h0 m (by omega)
    rw [minT_step (by omega)]
    unfold minN
    refine ⟨by split; exact List.getElem_mem _; exact ih.1, fun j hj hjm => ?_⟩
    by_cases e : j = m
    · subst e; split <;> omega
    · have := ih.2 j hj (by omega)
      split <;> omega
theorem minT_one {l : List Pt} (h0 : 0 < l.length) : minT l 1 = l[0] := by
  rw [minT_step h0]
  simp only [minT, List.take_zero, List.foldl_nil]
  rw [List.getD_eq_getElem?_getD, List.getElem?_eq_getElem h0]
  unfold minN; simp
theorem minT_all {l : List Pt} (hok : ∀ p ∈ l, ptOK p = true) (h0 : 0 < l.length) : minT l l.length = (hullR l)[0]'(hullR_pos hok h0) := by
  have hp := ord_pos h0
  have e : (hullR l).head? = (ordL l).head? := by
    by_cases h2 : 2 ≤ (ordL l).length
    · exact (hullR_of hok h2).2
    · rw [show hullR l = ordL l from if_pos (by omega)]
  have e' : (hullR l)[0]'(hullR_pos hok h0) = (ordL l)[0] := by
    rw [List.head?_eq_getElem?, List.head?_eq_getElem?, List.getElem?_eq_getElem (hullR_pos hok h0), List.getElem?_eq_getElem hp] at e
    exact Option.some.inj e
  rw [e']
  have hs := minT_spec h0 l.length (Nat.le_refl _)
  have hm : (ordL l)[0] ∈ l := (ord_mem l _).1 (List.getElem_mem _)
  have k1 : key (minT l l.length) ≤ key (ordL l)[0] := by
    obtain ⟨j, hj, hje⟩ := List.getElem_of_mem hm
    rw [← hje]; exact hs.2 j hj hj
  have k2 : key (ordL l)[0] ≤ key (minT l l.length) := by
    obtain ⟨j, hj, hje⟩ := List.getElem_of_mem ((ord_mem l _).2 hs.1)
    rw [← hje]
    by_cases e : j = 0
    · subst e; exact Int.le_refl _
    · have := (List.pairwise_iff_getElem.1 (ord_sorted hok)) 0 j hp hj (by omega); omega
  exact key_inj (hok _ hs.1) (hok _ hm) (by omega)
end Go.Pv.Geo

open Go Go.Proofs Go.Pv
set_option maxHeartbeats 4000000
set_option maxRecDepth 100000
set_option linter.unusedSimpArgs false
set_option linter.unusedVariables false
namespace Go.Pv.Geo
/-- The exported functions answer 0 if a point is not in range. -/
def crossX (a b c : Pt) : Int := if (ptOK a && ptOK b && ptOK c) = true then crossE a b c else 0
def sqX (a b : Pt) : Int := if (ptOK a && ptOK b) = true then sqE a b else 0
theorem ok2 {a b : Pt} (h : (ptOK a && ptOK b) = true) : ptOK a = true ∧ ptOK b = true := by simpa using h
theorem ok3 {a b c : Pt} (h : (ptOK a && ptOK b && ptOK c) = true) : ptOK a = true ∧ ptOK b = true ∧ ptOK c = true := by
  simp only [Bool.and_eq_true] at h; exact ⟨h.1.1, h.1.2, h.2⟩
theorem ok4 {a b c d : Pt} (h : (ptOK a && ptOK b && ptOK c && ptOK d) = true) : ptOK a = true ∧ ptOK b = true ∧ ptOK c = true ∧ ptOK d = true := by
  simp only [Bool.and_eq_true] at h; exact ⟨h.1.1.1, h.1.1.2, h.1.2, h.2⟩
theorem c_Cross (a b c : Pt) : Contract Try.prog 59 [.agg (encPt a), .agg (encPt b), .agg (encPt c)] (.ret (.int .i64 (crossX a b c))) := by
  have h1 := c_outside_3 a b c
  unfold crossX
  cases hok : ptOK a && ptOK b && ptOK c
  · rw [hok] at h1
    refine contract_of mix Try.func59 rfl rfl (by rw [Try.ntmps59]; exact Nat.le_of_ble_eq_true rfl) ?_; rw [Try.results59, Try.ntmps59]; simp only [argsE, Nat.reduceAdd]
    repeat' first
           | (with_reducible apply go_op)
           | (with_reducible apply go_next)
           | ((with_reducible (show evOp _ _ _ _ _ _)); first
             | (((with_reducible apply go_mv_int); rfl; rfl))
             | ((with_reducible apply go_as))
             | (((with_reducible apply go_ld_agg); rfl; rfl; rfl; rfl))
             | (((with_reducible apply go_fn_bool); (exact purL_os rfl (by simp) rfl); (exact h1); rfl))
             | (((with_reducible apply go_bx_agg); rfl; rfl; (exact Nat.le_of_ble_eq_true rfl); rfl; rfl))
             | (((with_reducible apply go_bs3_agg); rfl; rfl; rfl; rfl; rfl; rfl; rfl; rfl; rfl; rfl)))
           | ((with_reducible (show evOps _ _ _ _ _ _)); first
             | (with_reducible apply go_nil))
           | ((with_reducible (show evG _ _ _ _ _)); first
             | (with_reducible apply go_seq)
             | (with_reducible apply go_region)
             | ((with_reducible apply go_cond_t); rfl; rfl)
             | (with_reducible apply go_ret))
           | (with_reducible apply go_kseq)
           | (with_reducible apply go_kseq_ret)
           | ((with_reducible apply end_int); rfl)
    all_goals rfl
  · rw [hok] at h1
    obtain ⟨ha, hb, hc⟩ := ok3 hok
    refine contract_of mix Try.func59 rfl rfl (by rw [Try.ntmps59]; exact Nat.le_of_ble_eq_true rfl) ?_; rw [Try.results59, Try.ntmps59]; simp only [argsE, Nat.reduceAdd]
    repeat' first
           | (with_reducible apply go_op)
           | (with_reducible apply go_next)
           | ((with_reducible (show evOp _ _ _ _ _ _)); first
             | (((with_reducible apply go_mv_int); rfl; rfl))
             | ((with_reducible apply go_as))
             | (((with_reducible apply go_ld_agg); rfl; rfl; rfl; rfl))
             | ((with_reducible (show evOp _ (.call _) _ _ _ _)) ; first | ((with_reducible apply go_fn_bool); (exact purL_os rfl (by simp) rfl); (exact h1); rfl) | ((with_reducible apply go_fn_int); rfl; (exact c_cross a b c ha hb hc); rfl))
             | (((with_reducible apply go_bx_agg); rfl; rfl; (exact Nat.le_of_ble_eq_true rfl); rfl; rfl))
             | (((with_reducible apply go_bs3_agg); rfl; rfl; rfl; rfl; rfl; rfl; rfl; rfl; rfl; rfl)))
           | ((with_reducible (show evOps _ _ _ _ _ _)); first
             | (with_reducible apply go_nil))
           | ((with_reducible (show evG _ _ _ _ _)); first
             | (with_reducible apply go_seq)
             | (with_reducible apply go_region)
             | ((with_reducible apply go_cond_f); rfl; rfl)
             | (with_reducible apply go_ret)
             | (with_reducible apply go_skipc))
           | (with_reducible apply go_kseq)
           | ((with_reducible apply end_int); rfl)
    all_goals rfl
theorem c_Orient (a b c : Pt) : Contract Try.prog 55 [.agg (encPt a), .agg (encPt b), .agg (encPt c)] (.ret (.int .i64 (signE (crossX a b c)))) := by
  refine contract_of mix Try.func55 rfl rfl (by rw [Try.ntmps55]; exact Nat.le_of_ble_eq_true rfl) ?_; rw [Try.results55, Try.ntmps55]; simp only [argsE, Nat.reduceAdd]
  repeat' first
           | (with_reducible apply go_op)
           | (with_reducible apply go_next)
           | ((with_reducible (show evOp _ _ _ _ _ _)); first
             | (((with_reducible apply go_mv_int); rfl; rfl))
             | ((with_reducible apply go_as))
             | (((with_reducible apply go_ld_agg); rfl; rfl; rfl; rfl))
             | ((with_reducible (show evOp _ (.call _) _ _ _ _)) ; first | ((with_reducible apply go_fn_int); rfl; (exact c_Cross a b c); rfl) | ((with_reducible apply go_fn_int); rfl; (exact c_compare0 _); rfl))
             | (((with_reducible apply go_bx_agg); rfl; rfl; (exact Nat.le_of_ble_eq_true rfl); rfl; rfl)))
           | ((with_reducible (show evOps _ _ _ _ _ _)); first
             | (with_reducible apply go_nil))
           | ((with_reducible (show evG _ _ _ _ _)); first
             | (with_reducible apply go_seq)
             | (with_reducible apply go_region)
             | (with_reducible apply go_ret))
           | (with_reducible apply go_kseq)
           | ((with_reducible apply end_int); rfl)
           | (with_reducible rfl)
theorem c_Square (a b : Pt) : Contract Try.prog 62 [.agg (encPt a), .agg (encPt b)] (.ret (.int .i64 (sqX a b))) := by
  have h1 := c_outside_2 a b
  unfold sqX
  cases hok : ptOK a && ptOK b
  · rw [hok] at h1
    refine contract_of mix Try.func62 rfl rfl (by rw [Try.ntmps62]; exact Nat.le_of_ble_eq_true rfl) ?_; rw [Try.results62, Try.ntmps62]; simp only [argsE, Nat.reduceAdd]
    repeat' first
           | (with_reducible apply go_op)
           | (with_reducible apply go_next)
           | ((with_reducible (show evOp _ _ _ _ _ _)); first
             | (((with_reducible apply go_mv_int); rfl; rfl))
             | ((with_reducible apply go_as))
             | (((with_reducible apply go_ld_agg); rfl; rfl; rfl; rfl))
             | (((with_reducible apply go_fn_bool); (exact purL_os rfl (by simp) rfl); (exact h1); rfl))
             | (((with_reducible apply go_bx_agg); rfl; rfl; (exact Nat.le_of_ble_eq_true rfl); rfl; rfl))
             | (((with_reducible apply go_bs2_agg); rfl; rfl; rfl; rfl; rfl; rfl; rfl; rfl)))
           | ((with_reducible (show evOps _ _ _ _ _ _)); first
             | (with_reducible apply go_nil))
           | ((with_reducible (show evG _ _ _ _ _)); first
             | (with_reducible apply go_seq)
             | (with_reducible apply go_region)
             | ((with_reducible apply go_cond_t); rfl; rfl)
             | (with_reducible apply go_ret))
           | (with_reducible apply go_kseq)
           | (with_reducible apply go_kseq_ret)
           | ((with_reducible apply end_int); rfl)
    all_goals rfl
  · rw [hok] at h1
    obtain ⟨ha, hb⟩ := ok2 hok
    refine contract_of mix Try.func62 rfl rfl (by rw [Try.ntmps62]; exact Nat.le_of_ble_eq_true rfl) ?_; rw [Try.results62, Try.ntmps62]; simp only [argsE, Nat.reduceAdd]
    repeat' first
           | (with_reducible apply go_op)
           | (with_reducible apply go_next)
           | ((with_reducible (show evOp _ _ _ _ _ _)); first
             | (((with_reducible apply go_mv_int); rfl; rfl))
             | ((with_reducible apply go_as))
             | (((with_reducible apply go_ld_agg); rfl; rfl; rfl; rfl))
             | ((with_reducible (show evOp _ (.call _) _ _ _ _)) ; first | ((with_reducible apply go_fn_bool); (exact purL_os rfl (by simp) rfl); (exact h1); rfl) | ((with_reducible apply go_fn_int); rfl; (exact c_dot a b b ha hb hb); rfl))
             | (((with_reducible apply go_bx_agg); rfl; rfl; (exact Nat.le_of_ble_eq_true rfl); rfl; rfl))
             | (((with_reducible apply go_bs2_agg); rfl; rfl; rfl; rfl; rfl; rfl; rfl; rfl)))
           | ((with_reducible (show evOps _ _ _ _ _ _)); first
             | (with_reducible apply go_nil))
           | ((with_reducible (show evG _ _ _ _ _)); first
             | (with_reducible apply go_seq)
             | (with_reducible apply go_region)
             | ((with_reducible apply go_cond_f); rfl; rfl)
             | (with_reducible apply go_ret)
             | (with_reducible apply go_skipc))
           | (with_reducible apply go_kseq)
           | ((with_reducible apply end_int); rfl)
    all_goals rfl
theorem c_Between (a b p : Pt) : Contract Try.prog 34 [.agg (encPt a), .agg (encPt b), .agg (encPt p)] (.ret (.bool (ptOK a && ptOK b && ptOK p && onE a b p))) := by
  have h1 := c_outside_3 a b p
  cases hok : ptOK a && ptOK b && ptOK p
  · rw [hok] at h1
    refine contract_of mix Try.func34 rfl rfl (by rw [Try.ntmps34]; exact Nat.le_of_ble_eq_true rfl) ?_; rw [Try.results34, Try.ntmps34]; simp only [argsE, Nat.reduceAdd]
    repeat' first
           | (with_reducible apply go_op)
           | (with_reducible apply go_next)
           | ((with_reducible (show evOp _ _ _ _ _ _)); first
             | (((with_reducible apply go_mv_bool); rfl; rfl))
             | ((with_reducible apply go_as))
             | (((with_reducible apply go_ld_agg); rfl; rfl; rfl; rfl))
             | (((with_reducible apply go_fn_bool); (exact purL_os rfl (by simp) rfl); (exact h1); rfl))
             | (((with_reducible apply go_not); rfl; rfl))
             | (((with_reducible apply go_pick); rfl; rfl; rfl))
             | (((with_reducible apply go_bx_agg); rfl; rfl; (exact Nat.le_of_ble_eq_true rfl); rfl; rfl))
             | (((with_reducible apply go_bs3_agg); rfl; rfl; rfl; rfl; rfl; rfl; rfl; rfl; rfl; rfl)))
           | ((with_reducible (show evOps _ _ _ _ _ _)); first
             | (with_reducible apply go_nil)
             | ((with_reducible apply go_pass); rfl; rfl; rfl))
           | ((with_reducible (show evG _ _ _ _ _)); first
             | (with_reducible apply go_seq)
             | (with_reducible apply go_region)
             | (with_reducible apply go_ret))
           | (with_reducible apply go_kseq)
           | ((with_reducible apply end_bool); rfl)
    all_goals rfl
  · rw [hok] at h1
    obtain ⟨ha, hb, hc⟩ := ok3 hok
    refine contract_of mix Try.func34 rfl rfl (by rw [Try.ntmps34]; exact Nat.le_of_ble_eq_true rfl) ?_; rw [Try.results34, Try.ntmps34]; simp only [argsE, Nat.reduceAdd]
    repeat' first
           | (with_reducible apply go_op)
           | (with_reducible apply go_next)
           | ((with_reducible (show evOp _ _ _ _ _ _)); first
             | (((with_reducible apply go_mv_bool); rfl; rfl))
             | ((with_reducible apply go_as))
             | (((with_reducible apply go_ld_agg); rfl; rfl; rfl; rfl))
             | ((with_reducible (show evOp _ (.call _) _ _ _ _)) ; first | ((with_reducible apply go_fn_bool); (exact purL_os rfl (by simp) rfl); (exact h1); rfl) | ((with_reducible apply go_fn_bool); rfl; (exact c_on a b p ha hb hc); rfl))
             | (((with_reducible apply go_not); rfl; rfl))
             | (((with_reducible apply go_pick); rfl; rfl; rfl))
             | (((with_reducible apply go_bx_agg); rfl; rfl; (exact Nat.le_of_ble_eq_true rfl); rfl; rfl))
             | (((with_reducible apply go_bs3_agg); rfl; rfl; rfl; rfl; rfl; rfl; rfl; rfl; rfl; rfl)))
           | ((with_reducible (show evOps _ _ _ _ _ _)); first
             | (with_reducible apply go_nil)
             | ((with_reducible apply go_run); rfl; rfl))
           | ((with_reducible (show evG _ _ _ _ _)); first
             | (with_reducible apply go_seq)
             | (with_reducible apply go_region)
             | (with_reducible apply go_ret))
           | (with_reducible apply go_kseq)
           | ((with_reducible apply end_bool); rfl)
    all_goals rfl
theorem c_Meet (a b c d : Pt) : Contract Try.prog 35 [.agg (encPt a), .agg (encPt b), .agg (encPt c), .agg (encPt d)] (.ret (.bool (ptOK a && ptOK b && ptOK c && ptOK d && meetE a b c d))) := by
  have h1 := c_outside_4 a b c d
  cases hok : ptOK a && ptOK b && ptOK c && ptOK d
  · rw [hok] at h1
    refine contract_of mix Try.func35 rfl rfl (by rw [Try.ntmps35]; exact Nat.le_of_ble_eq_true rfl) ?_; rw [Try.results35, Try.ntmps35]; simp only [argsE, Nat.reduceAdd]
    repeat' first
           | (with_reducible apply go_op)
           | (with_reducible apply go_next)
           | ((with_reducible (show evOp _ _ _ _ _ _)); first
             | (((with_reducible apply go_mv_bool); rfl; rfl))
             | ((with_reducible apply go_as))
             | (((with_reducible apply go_ld_agg); rfl; rfl; rfl; rfl))
             | (((with_reducible apply go_fn_bool); (exact purL_os rfl (by simp) rfl); (exact h1); rfl))
             | (((with_reducible apply go_not); rfl; rfl))
             | (((with_reducible apply go_pick); rfl; rfl; rfl))
             | (((with_reducible apply go_bx_agg); rfl; rfl; (exact Nat.le_of_ble_eq_true rfl); rfl; rfl))
             | (((with_reducible apply go_bs4_agg); rfl; rfl; rfl; rfl; rfl; rfl; rfl; rfl; rfl; rfl; rfl; rfl)))
           | ((with_reducible (show evOps _ _ _ _ _ _)); first
             | (with_reducible apply go_nil)
             | ((with_reducible apply go_pass); rfl; rfl; rfl))
           | ((with_reducible (show evG _ _ _ _ _)); first
             | (with_reducible apply go_seq)
             | (with_reducible apply go_region)
             | (with_reducible apply go_ret))
           | (with_reducible apply go_kseq)
           | ((with_reducible apply end_bool); rfl)
    all_goals rfl
  · rw [hok] at h1
    obtain ⟨ha, hb, hc, hd⟩ := ok4 hok
    refine contract_of mix Try.func35 rfl rfl (by rw [Try.ntmps35]; exact Nat.le_of_ble_eq_true rfl) ?_; rw [Try.results35, Try.ntmps35]; simp only [argsE, Nat.reduceAdd]
    repeat' first
           | (with_reducible apply go_op)
           | (with_reducible apply go_next)
           | ((with_reducible (show evOp _ _ _ _ _ _)); first
             | (((with_reducible apply go_mv_bool); rfl; rfl))
             | ((with_reducible apply go_as))
             | (((with_reducible apply go_ld_agg); rfl; rfl; rfl; rfl))
             | ((with_reducible (show evOp _ (.call _) _ _ _ _)) ; first | ((with_reducible apply go_fn_bool); (exact purL_os rfl (by simp) rfl); (exact h1); rfl) | ((with_reducible apply go_fn_bool); rfl; (exact c_meet a b c d ha hb hc hd); rfl))
             | (((with_reducible apply go_not); rfl; rfl))
             | (((with_reducible apply go_pick); rfl; rfl; rfl))
             | (((with_reducible apply go_bx_agg); rfl; rfl; (exact Nat.le_of_ble_eq_true rfl); rfl; rfl))
             | (((with_reducible apply go_bs4_agg); rfl; rfl; rfl; rfl; rfl; rfl; rfl; rfl; rfl; rfl; rfl; rfl)))
           | ((with_reducible (show evOps _ _ _ _ _ _)); first
             | (with_reducible apply go_nil)
             | ((with_reducible apply go_run); rfl; rfl))
           | ((with_reducible (show evG _ _ _ _ _)); first
             | (with_reducible apply go_seq)
             | (with_reducible apply go_region)
             | (with_reducible apply go_ret))
           | (with_reducible apply go_kseq)
           | ((with_reducible apply end_bool); rfl)
    all_goals rfl
def cr (b c d : Pt) : Int := (b.x - d.x) * (c.y - d.y) - (b.y - d.y) * (c.x - d.x)
def rdetE (a b c d : Pt) : Int := nrm a d * cr b c d - nrm b d * cr a c d + nrm c d * cr a b d
theorem rdet_eq (a b c d : Pt) : rdetE a b c d = detE a b c d := by
  simp only [rdetE, detE, nrm, cr, crs]; grind
theorem det_swap (a b c d : Pt) : detE b a c d = -detE a b c d := by
  simp only [detE, nrm, crs]; grind
theorem cross_swap (a b c : Pt) : crossE b a c = -crossE a b c := by
  simp only [crossE]; grind
theorem sign_neg (n : Int) : signE (-n) = -signE n := by unfold signE; (repeat' split) <;> omega
theorem c_rInCircle (a b c d : Pt) (ka : ptOK a = true) (kb : ptOK b = true) (kc : ptOK c = true) (kd : ptOK d = true) (ha : nearE a d) (hb : nearE b d) (hc : nearE c d) : Contract Try.prog 24 [.agg (encPt a), .agg (encPt b), .agg (encPt c), .agg (encPt d)] (.ret (.int .i64 (signE (detE a b c d) * signE (crossE a b c)))) := by
  have m1 := mulN ha.1 ha.1
  have m2 := mulN hb.1 hb.1
  have m3 := mulN hc.1 hc.1
  have m4 := mulN ha.2 ha.2
  have m5 := mulN hb.2 hb.2
  have m6 := mulN hc.2 hc.2
  have x1 := mulN hb.1 hc.2
  have x2 := mulN hb.2 hc.1
  have x3 := mulN ha.1 hc.2
  have x4 := mulN ha.2 hc.1
  have x5 := mulN ha.1 hb.2
  have x6 := mulN ha.2 hb.1
  have k1 := pt_bd ka
  have k2 := pt_bd kb
  have k3 := pt_bd kc
  have k4 := pt_bd kd
  have t1 := mul_abs (u := (a.x - d.x) * (a.x - d.x) + (a.y - d.y) * (a.y - d.y)) (v := (b.x - d.x) * (c.y - d.y) - (b.y - d.y) * (c.x - d.x)) (A := 800000000) (B := 800000000) (by omega) (by omega)
  have t2 := mul_abs (u := (b.x - d.x) * (b.x - d.x) + (b.y - d.y) * (b.y - d.y)) (v := (a.x - d.x) * (c.y - d.y) - (a.y - d.y) * (c.x - d.x)) (A := 800000000) (B := 800000000) (by omega) (by omega)
  have t3 := mul_abs (u := (c.x - d.x) * (c.x - d.x) + (c.y - d.y) * (c.y - d.y)) (v := (a.x - d.x) * (b.y - d.y) - (a.y - d.y) * (b.x - d.x)) (A := 800000000) (B := 800000000) (by omega) (by omega)
  have hs := sign_mul (rdetE a b c d) (crossE a b c)
  have e : rdetE a b c d = ((a.x - d.x) * (a.x - d.x) + (a.y - d.y) * (a.y - d.y)) * ((b.x - d.x) * (c.y - d.y) - (b.y - d.y) * (c.x - d.x)) - ((b.x - d.x) * (b.x - d.x) + (b.y - d.y) * (b.y - d.y)) * ((a.x - d.x) * (c.y - d.y) - (a.y - d.y) * (c.x - d.x)) + ((c.x - d.x) * (c.x - d.x) + (c.y - d.y) * (c.y - d.y)) * ((a.x - d.x) * (b.y - d.y) - (a.y - d.y) * (b.x - d.x)) := rfl
  rw [← rdet_eq]
  rw [e] at hs ⊢
  refine contract_of mix Try.func24 rfl rfl (by rw [Try.ntmps24]; exact Nat.le_of_ble_eq_true rfl) ?_; rw [Try.results24, Try.ntmps24]; simp only [argsE, Nat.reduceAdd]
  repeat' first
           | (with_reducible apply go_op)
           | (with_reducible apply go_next)
           | ((with_reducible (show evOp _ _ _ _ _ _)); first
             | (((with_reducible apply go_mv_int); rfl; rfl))
             | ((with_reducible apply go_as))
             | ((with_reducible (show evOp _ (.load _ _) _ _ _ _)) ; first | ((with_reducible apply go_ld_agg); rfl; rfl; rfl; rfl) | ((with_reducible apply go_load_own); rfl; rfl; rfl; rfl))
             | (((with_reducible apply go_fieldAddr_own); rfl; rfl; rfl))
             | ((with_reducible (show evOp _ (.binOp _ _ _ _ _) _ _ _ _)) ; first | ((with_reducible apply go_add); rfl; rfl; rfl; omega) | ((with_reducible apply go_sub); rfl; rfl; rfl; omega) | ((with_reducible apply go_mul); rfl; rfl; rfl; omega))
             | ((with_reducible (show evOp _ (.call _) _ _ _ _)) ; first | ((with_reducible apply go_fn_int); rfl; (exact c_sign _); rfl) | ((with_reducible apply go_fn_int); rfl; (exact c_rorient a b c ka kb kc); rfl))
             | (((with_reducible apply go_bx_agg); rfl; rfl; (exact Nat.le_of_ble_eq_true rfl); rfl; rfl)))
           | ((with_reducible (show evOps _ _ _ _ _ _)); first
             | (with_reducible apply go_nil)
             | ((with_reducible apply go_pre); rfl)
             | (with_reducible apply go_pre_nil)
             | ((with_reducible apply go_suf); rfl)
             | (with_reducible apply go_suf_nil))
           | ((with_reducible (show evG _ _ _ _ _)); first
             | (with_reducible apply go_seq)
             | (with_reducible apply go_region)
             | ((with_reducible apply go_order); kernel_rfl; rfl)
             | (with_reducible apply go_ret))
           | (with_reducible apply go_kseq)
           | (with_reducible apply go_ksuf)
           | ((with_reducible apply end_int); rfl)
           | (with_reducible rfl)
end Go.Pv.Geo

set_option linter.unusedVariables false
set_option linter.unusedSimpArgs false
namespace Go.Pv.Geo
open Go Go.Proofs Go.Pv
/-! Which triangles belong to the triangulation: plain. -/
theorem near_l {l : List Pt} (hf : farL l = false) {p q : Pt} (hp : p ∈ l) (hq : q ∈ l) : nearE p q := by
  have h : ∀ x ∈ l, ∀ y ∈ l, farP x y = false := by
    intro x hx y hy
    cases e : farP x y
    · rfl
    · have : farL l = true := List.any_eq_true.2 ⟨x, hx, List.any_eq_true.2 ⟨y, hy, e⟩⟩
      rw [this] at hf; cases hf
  have h1 := h p hp q hq
  have h2 := h q hq p hp
  unfold farP at h1 h2
  simp at h1 h2
  simp only [nearE]
  omega
/-- A point that takes a triangle out; its first corner comes first. -/
def badP (a b c p : Pt) : Bool := decide (0 < detE a b c p) || (decide (detE a b c p = 0) && (decide (key p < key a) || decide (crossE b c p < 0)))
def belL (l : List Pt) (a b c : Pt) : Bool := !(l.any fun p => badP a b c p)
theorem bel_no {l : List Pt} {a b c p : Pt} (hp : p ∈ l) (h : badP a b c p = true) : belL l a b c = false := by
  unfold belL; rw [List.any_eq_true.2 ⟨p, hp, h⟩]; rfl
theorem bel_yes {l : List Pt} {a b c : Pt} (h : ∀ j (hj : j < l.length), badP a b c l[j] = false) : belL l a b c = true := by
  unfold belL
  rw [Bool.not_eq_true', List.any_eq_false]
  intro p hp
  obtain ⟨j, hj, rfl⟩ := List.getElem_of_mem hp
  rw [h j hj]; simp
/-- The corners turned round until the first one comes first. -/
def rot3 (t : Pt × Pt × Pt) : Pt × Pt × Pt := if key t.2.1 < key t.1 ∨ key t.2.2 < key t.1 then (t.2.1, t.2.2, t.1) else t
def rotT (a b c : Pt) : Nat → Pt × Pt × Pt
  | 0 => (a, b, c)
  | n + 1 => rot3 (rotT a b c n)
theorem rotT_mem {l : List Pt} {a b c : Pt} (ha : a ∈ l) (hb : b ∈ l) (hc : c ∈ l) : ∀ n, (rotT a b c n).1 ∈ l ∧ (rotT a b c n).2.1 ∈ l ∧ (rotT a b c n).2.2 ∈ l
  | 0 => ⟨ha, hb, hc⟩
  | n + 1 => by
    have h := rotT_mem ha hb hc n
    rw [rotT, rot3]
    split
    · exact ⟨h.2.1, h.2.2, h.1⟩
    · exact h
theorem ahead_neg {p q : Pt} (hp : ptOK p = true) (hq : ptOK q = true) : aheadE p q < 0 ↔ key p < key q := by
  have h : decide (aheadE p q < 0) = _ := ahead_lt p q
  rw [key_lt hp hq, ← decide_eq_decide, h]
/-- A point on the circle and on the line of two corners is one of them. -/
theorem det_line (a b c p : Pt) : detE a b c p = crossE b c p * dotE a b c - crossE a b c * dotE p b c := by
  simp only [detE, nrm, crs, crossE, dotE]; grind
theorem sq_line (p b c : Pt) : crossE b c p * crossE b c p + dotE p b c * dotE p b c = ((b.x - p.x) * (b.x - p.x) + (b.y - p.y) * (b.y - p.y)) * ((c.x - p.x) * (c.x - p.x) + (c.y - p.y) * (c.y - p.y)) := by
  simp only [crossE, dotE]; grind
theorem sq_nn (u : Int) : 0 ≤ u * u := by
  rcases Int.le_total 0 u with h | h
  · exact Int.mul_nonneg h h
  · exact Int.mul_nonneg_of_nonpos_of_nonpos h h
theorem sq_zero {u v : Int} (h : u * u + v * v = 0) : u = 0 ∧ v = 0 := by
  have h1 : 0 ≤ u * u := sq_nn u
  have h2 : 0 ≤ v * v := sq_nn v
  have h3 : u * u = 0 := by omega
  have h4 : v * v = 0 := by omega
  exact ⟨(Int.mul_eq_zero.1 h3).elim id id, (Int.mul_eq_zero.1 h4).elim id id⟩
theorem on_line {a b c p : Pt} (h0 : crossE a b c ≠ 0) (h1 : detE a b c p = 0) (h2 : crossE b c p = 0) : p = b ∨ p = c := by
  rw [det_line, h2, Int.zero_mul] at h1
  have h3 : dotE p b c = 0 := by
    have : crossE a b c * dotE p b c = 0 := by omega
    exact (Int.mul_eq_zero.1 this).resolve_left h0
  have h4 := sq_line p b c
  rw [h2, h3] at h4
  have h5 := Int.mul_eq_zero.1 (show _ = (0 : Int) from h4.symm.trans (by simp))
  rcases h5 with h | h
  · left; have := sq_zero h; cases p; cases b; simp only [Pt.mk.injEq]; simp only at this; omega
  · right; have := sq_zero h; cases p; cases c; simp only [Pt.mk.injEq]; simp only at this; omega
theorem det_corner (a b c : Pt) : detE a b c a = 0 ∧ detE a b c b = 0 ∧ detE a b c c = 0 := by
  refine ⟨?_, ?_, ?_⟩ <;> (simp only [detE, nrm, crs]; grind)
theorem cross_turn (a b c : Pt) : crossE b c a = crossE a b c := by simp only [crossE]; grind
theorem cross_end (b c : Pt) : crossE b c b = 0 ∧ crossE b c c = 0 := by
  refine ⟨?_, ?_⟩ <;> (simp only [crossE]; grind)
theorem det_turn (a b c p : Pt) : detE b c a p = detE a b c p := by
  simp only [detE, nrm, crs]; grind
/-- The corners take no triangle out. -/
theorem bad_corner {a b c : Pt} (h0 : 0 < crossE a b c) (h1 : key a ≤ key b) (h2 : key a ≤ key c) : badP a b c a = false ∧ badP a b c b = false ∧ badP a b c c = false := by
  have d := det_corner a b c
  have e := cross_end b c
  have t := cross_turn a b c
  unfold badP
  rw [d.1, d.2.1, d.2.2, e.1, e.2, t]
  refine ⟨?_, ?_, ?_⟩ <;> (simp; omega)
end Go.Pv.Geo

set_option linter.unusedVariables false
set_option linter.unusedSimpArgs false
namespace Go.Pv.Geo
open Go Go.Proofs Go.Pv
theorem bad_ref {a b c p : Pt} (h0 : 0 < crossE a b c) (hb : p ≠ b) (hc : p ≠ c) : badP a b c p = (decide (0 < signE (detE a b c p)) || (decide (signE (detE a b c p) = 0) && (decide (key p < key a) || !decide (signE (crossE b c p) = 1)))) := by
  have h1 : (0 < signE (detE a b c p)) = (0 < detE a b c p) := propext (by unfold signE; (repeat' split) <;> omega)
  have h2 : (signE (detE a b c p) = 0) = (detE a b c p = 0) := propext (by unfold signE; (repeat' split) <;> omega)
  have h3 : (signE (crossE b c p) = 1) = (0 < crossE b c p) := propext (by unfold signE; (repeat' split) <;> omega)
  unfold badP
  simp only [h1, h2, h3]
  by_cases hd : detE a b c p = 0
  · have hx : crossE b c p ≠ 0 := fun e => (on_line (by omega) hd e).elim hb hc
    have : decide (crossE b c p < 0) = !decide (0 < crossE b c p) := by
      by_cases h : 0 < crossE b c p
      · simp [h]; omega
      · simp [h]; omega
    rw [this]
  · simp [hd]
theorem cross_ne {a b c : Pt} (h : 0 < crossE a b c) : a ≠ b ∧ b ≠ c ∧ a ≠ c := by
  refine ⟨fun e => ?_, fun e => ?_, fun e => ?_⟩ <;> (subst e; simp only [crossE] at h; grind)
/-- The corner that comes first, as the reference finds it. -/
def fst1 (a b : Pt) : Nat := if key b < key a then 1 else 0
theorem rot_0 {a b c : Pt} (h1 : ¬ key b < key a) (h2 : ¬ key c < key a) : rotT a b c 2 = (a, b, c) := by
  have e : rot3 (a, b, c) = (a, b, c) := if_neg (by simp only; omega)
  rw [rotT, rotT, rotT, e, e]
theorem rot_1 {a b c : Pt} (h1 : key b < key a) (h2 : ¬ key c < key b) : rotT a b c 2 = (b, c, a) := by
  have e : rot3 (a, b, c) = (b, c, a) := if_pos (by simp only; omega)
  have e2 : rot3 (b, c, a) = (b, c, a) := if_neg (by simp only; omega)
  rw [rotT, rotT, rotT, e, e2]
theorem rot_2 {a b c : Pt} (h1 : key c < key a) (h2 : key c < key b) : rotT a b c 2 = (c, a, b) := by
  have e : rot3 (a, b, c) = (b, c, a) := if_pos (by simp only; omega)
  have e2 : rot3 (b, c, a) = (c, a, b) := if_pos (by simp only; omega)
  rw [rotT, rotT, rotT, e, e2]
end Go.Pv.Geo

open Go Go.Proofs Go.Pv
set_option maxHeartbeats 4000000
set_option maxRecDepth 100000
set_option linter.unusedSimpArgs false
set_option linter.unusedVariables false
namespace Go.Pv.Geo
structure Tri where
  a : Int
  b : Int
  c : Int
  deriving DecidableEq
def encTri (t : Tri) : List D := [.int .i64 t.a, .int .i64 t.b, .int .i64 t.c]
theorem scalTri : ScalF encTri 3 := fun _ => ⟨rfl, rfl⟩
/-- The error of points. -/
def chkE (l : List Pt) : Int := if 64 < l.length then 8 else if (l.any fun p => !ptOK p) = true then 2 else 0
theorem c_Check (l : List Pt) (hl : l.length < 1000000000000) : Contract Try.prog 27 [.sl (l.map encPt)] (.ret (.int .i64 (chkE l))) := by
  refine contract_of mix Try.func27 rfl rfl (by rw [Try.ntmps27]; exact Nat.le_of_ble_eq_true rfl) ?_; rw [Try.results27, Try.ntmps27]; simp only [argsE, Nat.reduceAdd]
  repeat' first
           | (with_reducible apply go_op)
           | (with_reducible apply go_next)
           | ((with_reducible (show evOp _ _ _ _ _ _)); first
             | ((with_reducible (show evOp _ (.move _) _ _ _ _)) ; first | ((with_reducible apply go_mv_int); rfl; rfl) | ((with_reducible apply go_mv_sl); rfl; rfl))
             | ((with_reducible apply go_as))
             | (((with_reducible apply go_cmp); rfl; rfl; rfl; rfl))
             | ((with_reducible (show evOp _ (.call _) _ _ _ _)) ; first | ((with_reducible apply go_len); rfl; rfl) | ((with_reducible apply go_fn_bool); rfl; (exact c_outside l hl); rfl)))
           | ((with_reducible (show evOps _ _ _ _ _ _)); first
             | (with_reducible apply go_nil))
           | ((with_reducible (show evG _ _ _ _ _)); first
             | (with_reducible apply go_seq)
             | (with_reducible apply go_region)
             | (((with_reducible apply go_cond); rfl) <;> (intro h; simp only [h]; try simp only [decide_eq_true_eq, decide_eq_false_iff_not, Bool.not_eq_true', Bool.not_eq_false', Bool.not_true, Bool.not_false] at h; try exact absurd trivial h))
             | (with_reducible apply go_ret)
             | (with_reducible apply go_skipc))
           | (with_reducible apply go_kseq)
           | (with_reducible apply go_kseq_ret)
           | ((with_reducible apply end_int); rfl)
  · unfold chkE; rw [if_pos (by omega)]
  · unfold chkE; rw [if_neg (by omega), if_pos (by assumption)]
  · unfold chkE; rw [if_neg (by omega), if_neg (by simp_all)]
theorem c_rCheck (l : List Pt) (hl : l.length < 1000000000000) : Contract Try.prog 26 [.sl (l.map encPt)] (.ret (.int .i64 (chkE l))) := by
  refine contract_of mix Try.func26 rfl rfl (by rw [Try.ntmps26]; exact Nat.le_of_ble_eq_true rfl) ?_; rw [Try.results26, Try.ntmps26]; simp only [argsE, Nat.reduceAdd]
  repeat' first
           | (with_reducible apply go_op)
           | (with_reducible apply go_next)
           | ((with_reducible (show evOp _ _ _ _ _ _)); first
             | ((with_reducible (show evOp _ (.move _) _ _ _ _)) ; first | ((with_reducible apply go_mv_int); rfl; rfl) | ((with_reducible apply go_mv_sl); rfl; rfl))
             | ((with_reducible apply go_as))
             | (((with_reducible apply go_cmp); rfl; rfl; rfl; rfl))
             | (((with_reducible apply go_len); rfl; rfl)))
           | ((with_reducible (show evOps _ _ _ _ _ _)); first
             | (with_reducible apply go_nil))
           | ((with_reducible (show evG _ _ _ _ _)); first
             | (with_reducible apply go_seq)
             | (with_reducible apply go_region)
             | (((with_reducible apply go_cond); rfl) <;> (intro h; simp only [h]; try simp only [decide_eq_true_eq, decide_eq_false_iff_not, Bool.not_eq_true', Bool.not_eq_false', Bool.not_true, Bool.not_false] at h; try exact absurd trivial h))
             | (with_reducible apply go_ret)
             | (with_reducible apply go_skipc)
             | (with_reducible apply go_block))
           | (with_reducible apply go_kseq)
           | (with_reducible apply go_kseq_ret)
           | ((with_reducible apply end_int); rfl)
  · unfold chkE; rw [if_pos (by omega)]
  refine go_count (l.length) (fun i => ⟨[(3, .int .i64 i), (0, .sl (l.map encPt))], [], 0, 19⟩) (fun i => ∀ j (hj : j < i) (hj' : j < l.length), ptOK l[j] = true) (entails_eq (k := 0) (ns := []) (ks := [3, 0]) [] rfl (by simp) rfl) (by omega) ?_
  intro i hi hC
  by_cases h2 : i < l.length
  · have g := c_good l[i]
    cases hp : ptOK l[i]
    · rw [hp] at g
      repeat' first
           | (with_reducible apply go_op)
           | (with_reducible apply go_next)
           | ((with_reducible (show evOp _ _ _ _ _ _)); first
             | ((with_reducible (show evOp _ (.move _) _ _ _ _)) ; first | ((with_reducible apply go_mv_int); rfl; rfl) | ((with_reducible apply go_mv_sl); rfl; rfl))
             | ((with_reducible apply go_as))
             | (((with_reducible apply go_ld_ptr); rfl; rfl; rfl))
             | (((with_reducible apply go_index_nat); rfl; rfl; (with_reducible rfl); (intro; rfl); rfl; omega; (intro hlt)))
             | (((with_reducible apply go_cmp); rfl; rfl; rfl; rfl))
             | ((with_reducible (show evOp _ (.call _) _ _ _ _)) ; first | ((with_reducible apply go_len); rfl; rfl) | ((with_reducible apply go_fn_bool); rfl; (exact g); rfl))
             | (((with_reducible apply go_not); rfl; rfl)))
           | ((with_reducible (show evOps _ _ _ _ _ _)); first
             | (with_reducible apply go_nil))
           | ((with_reducible (show evG _ _ _ _ _)); first
             | (with_reducible apply go_seq)
             | (with_reducible apply go_region)
             | ((with_reducible apply go_cond_t); rfl; rfl)
             | (((with_reducible apply go_cond); rfl) <;> (intro h; simp only [h]; try simp only [decide_eq_true_eq, decide_eq_false_iff_not, Bool.not_eq_true', Bool.not_eq_false', Bool.not_true, Bool.not_false] at h; try exact absurd trivial h))
             | (with_reducible apply go_ret)
             | (with_reducible apply go_skipc)
             | (with_reducible apply go_block)
             | (with_reducible apply go_exit))
           | (with_reducible apply go_kseq)
           | (with_reducible apply go_kseq_ret)
           | (with_reducible apply go_kblock_ret)
           | (with_reducible apply go_kblock_exit)
           | (with_reducible apply go_kseq_exit)
           | ((with_reducible apply end_int); rfl)
      all_goals first
        | (exfalso; omega)
        | (unfold chkE; rw [if_neg (by omega), if_pos (List.any_eq_true.2 ⟨_, List.getElem_mem h2, by rw [hp]; rfl⟩)])
    · rw [hp] at g
      repeat' first
           | (with_reducible apply go_op)
           | (with_reducible apply go_next)
           | ((with_reducible (show evOp _ _ _ _ _ _)); first
             | ((with_reducible (show evOp _ (.move _) _ _ _ _)) ; first | ((with_reducible apply go_mv_int); rfl; rfl) | ((with_reducible apply go_mv_sl); rfl; rfl))
             | ((with_reducible apply go_as))
             | (((with_reducible apply go_ld_ptr); rfl; rfl; rfl))
             | (((with_reducible apply go_index_nat); rfl; rfl; (with_reducible rfl); (intro; rfl); rfl; omega; (intro hlt)))
             | ((with_reducible (show evOp _ (.binOp _ _ _ _ _) _ _ _ _)) ; first | ((with_reducible apply go_cmp); rfl; rfl; rfl; rfl) | ((with_reducible apply go_add); rfl; rfl; rfl; omega))
             | ((with_reducible (show evOp _ (.call _) _ _ _ _)) ; first | ((with_reducible apply go_len); rfl; rfl) | ((with_reducible apply go_fn_bool); rfl; (exact g); rfl))
             | (((with_reducible apply go_not); rfl; rfl)))
           | ((with_reducible (show evOps _ _ _ _ _ _)); first
             | (with_reducible apply go_nil))
           | ((with_reducible (show evG _ _ _ _ _)); first
             | (with_reducible apply go_seq)
             | (with_reducible apply go_region)
             | ((with_reducible apply go_cond_f); rfl; rfl)
             | (((with_reducible apply go_cond); rfl) <;> (intro h; simp only [h]; try simp only [decide_eq_true_eq, decide_eq_false_iff_not, Bool.not_eq_true', Bool.not_eq_false', Bool.not_true, Bool.not_false] at h; try exact absurd trivial h))
             | (with_reducible apply go_ret)
             | (with_reducible apply go_skipc)
             | (with_reducible apply go_block)
             | (with_reducible apply go_exit))
           | (with_reducible apply go_kseq)
           | (with_reducible apply go_kblock)
           | (with_reducible apply go_kblock_exit)
           | (with_reducible apply go_kseq_exit)
           | ((with_reducible apply end_int); rfl)
      all_goals first
        | (exfalso; omega)
        | (refine ⟨h2, fun j hj hj' => ?_, entails_eq (k := 0) (ns := []) (ks := [3, 0]) [] rfl (by simp) rfl⟩
           rcases Nat.lt_succ_iff_lt_or_eq.1 hj with h' | rfl
           · exact hC j h' hj'
           · exact hp)
  · repeat' first
           | (with_reducible apply go_op)
           | (with_reducible apply go_next)
           | ((with_reducible (show evOp _ _ _ _ _ _)); first
             | ((with_reducible (show evOp _ (.move _) _ _ _ _)) ; first | ((with_reducible apply go_mv_int); rfl; rfl) | ((with_reducible apply go_mv_sl); rfl; rfl))
             | ((with_reducible apply go_as))
             | (((with_reducible apply go_ld_ptr); rfl; rfl; rfl))
             | (((with_reducible apply go_index_nat); rfl; rfl; (with_reducible rfl); (intro; rfl); rfl; omega; (intro hlt)))
             | (((with_reducible apply go_cmp); rfl; rfl; rfl; rfl))
             | (((with_reducible apply go_len); rfl; rfl)))
           | ((with_reducible (show evOps _ _ _ _ _ _)); first
             | (with_reducible apply go_nil))
           | ((with_reducible (show evG _ _ _ _ _)); first
             | (with_reducible apply go_seq)
             | (with_reducible apply go_region)
             | (((with_reducible apply go_cond); rfl) <;> (intro h; simp only [h]; try simp only [decide_eq_true_eq, decide_eq_false_iff_not, Bool.not_eq_true', Bool.not_eq_false', Bool.not_true, Bool.not_false] at h; try exact absurd trivial h))
             | (with_reducible apply go_ret)
             | (with_reducible apply go_skipc)
             | (with_reducible apply go_block)
             | (with_reducible apply go_exit))
           | (with_reducible apply go_kseq)
           | (with_reducible apply go_kblock_exit)
           | (with_reducible apply go_kseq_exit)
           | ((with_reducible apply end_int); rfl)
    all_goals first
      | (exfalso; omega)
      | (unfold chkE
         rw [if_neg (by omega), if_neg]
         simp only [List.any_eq_true, not_exists, not_and]
         intro x hx
         obtain ⟨j, hj, rfl⟩ := List.mem_iff_getElem.1 hx
         rw [hC j (by omega) hj]; simp)
theorem chk_ok {l : List Pt} (h : chkE l = 0) : l.length ≤ 64 ∧ ∀ p ∈ l, ptOK p = true := by
  unfold chkE at h
  split at h
  · cases h
  · split at h
    · cases h
    · rename_i h1 h2
      refine ⟨by omega, fun p hp => ?_⟩
      simp only [List.any_eq_true, not_exists, not_and] at h2
      simpa using h2 p hp
/-- Has a list with n elements the numbers of a triangle? -/
def hasE (n : Int) (t : Tri) : Bool := decide ((0 ≤ t.a ∧ t.a < n) ∧ (0 ≤ t.b ∧ t.b < n) ∧ 0 ≤ t.c ∧ t.c < n)
theorem has_bd {n : Int} {t : Tri} (h : hasE n t = true) : (0 ≤ t.a ∧ t.a < n) ∧ (0 ≤ t.b ∧ t.b < n) ∧ 0 ≤ t.c ∧ t.c < n := of_decide_eq_true h
theorem c_numbered (t : Tri) (n : Int) : Contract Try.prog 86 [.agg (encTri t), .int .i64 n] (.ret (.bool (hasE n t))) := by
  refine contract_of mix Try.func86 rfl rfl (by rw [Try.ntmps86]; exact Nat.le_of_ble_eq_true rfl) ?_; rw [Try.results86, Try.ntmps86]; simp only [argsE, Nat.reduceAdd]
  repeat' first
           | (with_reducible apply go_op)
           | (with_reducible apply go_next)
           | ((with_reducible (show evOp _ _ _ _ _ _)); first
             | ((with_reducible (show evOp _ (.move _) _ _ _ _)) ; first | ((with_reducible apply go_mv_int); rfl; rfl) | ((with_reducible apply go_mv_bool); rfl; rfl))
             | ((with_reducible apply go_as))
             | (((with_reducible apply go_load_own); rfl; rfl; rfl; rfl))
             | (((with_reducible apply go_fieldAddr_own); rfl; rfl; rfl))
             | (((with_reducible apply go_cmp); rfl; rfl; rfl; rfl))
             | ((with_reducible (show evOp _ (.call _) _ _ _ _)) ; first | ((with_reducible apply go_min3); rfl; rfl; rfl; rfl) | ((with_reducible apply go_max3); rfl; rfl; rfl; rfl))
             | (((with_reducible apply go_pick); rfl; rfl; rfl))
             | (((with_reducible apply go_bx_agg); rfl; rfl; (exact Nat.le_of_ble_eq_true rfl); rfl; rfl)))
           | ((with_reducible (show evOps _ _ _ _ _ _)); first
             | (with_reducible apply go_nil)
             | ((with_reducible apply go_run); rfl; rfl)
             | ((with_reducible apply go_pass); rfl; rfl; rfl)
             | (((with_reducible apply go_guard); rfl) <;> (intro h; simp only [h, Bool.not_true, Bool.not_false]; (try with_reducible (refine ⟨rfl, ?_⟩)); try simp only [decide_eq_true_eq, decide_eq_false_iff_not, Bool.not_eq_true', Bool.not_eq_false', Bool.not_true, Bool.not_false] at h; try exact absurd trivial h)))
           | ((with_reducible (show evG _ _ _ _ _)); first
             | (with_reducible apply go_seq)
             | (with_reducible apply go_region)
             | (with_reducible apply go_ret))
           | (with_reducible apply go_kseq)
           | ((with_reducible apply end_bool); rfl)
  all_goals (unfold hasE; first | exact (decide_eq_true (by omega)).symm | exact (decide_eq_false (by omega)).symm | (exact decide_eq_decide.2 (by omega)) | trace_state)
theorem c_has (t : Tri) (n : Int) (hn : 0 ≤ n ∧ n < 1000000000000) : Contract Try.prog 88 [.int .i64 n, .agg (encTri t)] (.ret (.bool (hasE n t))) := by
  refine contract_of mix Try.func88 rfl rfl (by rw [Try.ntmps88]; exact Nat.le_of_ble_eq_true rfl) ?_; rw [Try.results88, Try.ntmps88]; simp only [argsE, Nat.reduceAdd]
  repeat' first
           | (with_reducible apply go_op)
           | (with_reducible apply go_next)
           | ((with_reducible (show evOp _ _ _ _ _ _)); first
             | ((with_reducible (show evOp _ (.move _) _ _ _ _)) ; first | ((with_reducible apply go_mv_int); rfl; rfl) | ((with_reducible apply go_mv_bool); rfl; rfl))
             | ((with_reducible apply go_as))
             | (((with_reducible apply go_load_own); rfl; rfl; rfl; rfl))
             | (((with_reducible apply go_fieldAddr_own); rfl; rfl; rfl))
             | (((with_reducible apply go_sub); rfl; rfl; rfl; omega))
             | (((with_reducible apply go_fn_bool); rfl; (exact c_within _ _ _); rfl))
             | (((with_reducible apply go_pick); rfl; rfl; rfl))
             | (((with_reducible apply go_bx_agg); rfl; rfl; (exact Nat.le_of_ble_eq_true rfl); rfl; rfl)))
           | ((with_reducible (show evOps _ _ _ _ _ _)); first
             | (with_reducible apply go_nil)
             | ((with_reducible apply go_run); rfl; rfl)
             | ((with_reducible apply go_pass); rfl; rfl; rfl)
             | (((with_reducible apply go_guard); rfl) <;> (intro h; simp only [h, Bool.not_true, Bool.not_false]; (try with_reducible (refine ⟨rfl, ?_⟩)); try simp only [decide_eq_true_eq, decide_eq_false_iff_not, Bool.not_eq_true', Bool.not_eq_false', Bool.not_true, Bool.not_false] at h; try exact absurd trivial h)))
           | ((with_reducible (show evG _ _ _ _ _)); first
             | (with_reducible apply go_seq)
             | (with_reducible apply go_region)
             | (with_reducible apply go_ret))
           | (with_reducible apply go_kseq)
           | ((with_reducible apply end_bool); rfl)
  all_goals (unfold hasE; first | exact (decide_eq_true (by omega)).symm | exact (decide_eq_false (by omega)).symm | (exact decide_eq_decide.2 (by omega)) | trace_state)
end Go.Pv.Geo

set_option linter.unusedVariables false
set_option linter.unusedSimpArgs false
namespace Go.Pv.Geo
open Go Go.Proofs Go.Pv
/-! The triangles in the order in which they are found, and sorted: plain. -/
/-- The lists of the first k, one behind the other. -/
def accF {α : Type} (f : Nat → List α) : Nat → List α
  | 0 => []
  | k + 1 => accF f k ++ f k
theorem accF_len {α : Type} {f : Nat → List α} {B : Nat} (h : ∀ i, (f i).length ≤ B) : ∀ k, (accF f k).length ≤ k * B
  | 0 => by simp [accF]
  | k + 1 => by
    have := accF_len h k
    have := h k
    rw [accF, List.length_append, Nat.add_mul, Nat.one_mul]; omega
theorem accF_mem {α : Type} {f : Nat → List α} {x : α} : ∀ {k}, x ∈ accF f k ↔ ∃ i, i < k ∧ x ∈ f i
  | 0 => by simp [accF]
  | k + 1 => by
    rw [accF, List.mem_append, accF_mem]
    constructor
    · rintro (⟨i, h, hx⟩ | hx)
      · exact ⟨i, by omega, hx⟩
      · exact ⟨k, by omega, hx⟩
    · rintro ⟨i, h, hx⟩
      by_cases e : i = k
      · subst e; exact .inr hx
      · exact .inl ⟨i, by omega, hx⟩
theorem accF_pw {α : Type} {R : α → α → Prop} {f : Nat → List α} : ∀ {k}, (∀ i, i < k → (f i).Pairwise R) → (∀ i j, i < j → j < k → ∀ x ∈ f i, ∀ y ∈ f j, R x y) → (accF f k).Pairwise R
  | 0, _, _ => List.Pairwise.nil
  | k + 1, h1, h2 => by
    rw [accF, List.pairwise_append]
    refine ⟨accF_pw (fun i h => h1 i (by omega)) (fun i j h h' => h2 i j h (by omega)), h1 k (by omega), fun x hx y hy => ?_⟩
    obtain ⟨i, hi, hx⟩ := accF_mem.1 hx
    exact h2 i k hi (by omega) x hx y hy
/-- A triangle of small numbers. -/
abbrev BT : Type := { t : Tri // (0 ≤ t.a ∧ t.a < 100) ∧ (0 ≤ t.b ∧ t.b < 100) ∧ 0 ≤ t.c ∧ t.c < 100 }
instance : Inhabited BT := ⟨⟨⟨0, 0, 0⟩, by simp⟩⟩
theorem BT.ext {x y : BT} (h1 : x.1.a = y.1.a) (h2 : x.1.b = y.1.b) (h3 : x.1.c = y.1.c) : x = y := by
  obtain ⟨⟨a, b, c⟩, h⟩ := x; obtain ⟨⟨d, e, f⟩, h'⟩ := y
  simp only at h1 h2 h3; subst h1 h2 h3; rfl
def mkB (a b c : Nat) : BT := if h : a < 100 ∧ b < 100 ∧ c < 100 then ⟨⟨a, b, c⟩, by simp only; omega⟩ else default
theorem mkB_val {a b c : Nat} (ha : a < 100) (hb : b < 100) (hc : c < 100) : (mkB a b c).1 = ⟨a, b, c⟩ := by
  rw [mkB, dif_pos ⟨ha, hb, hc⟩]
def ptL (l : List Pt) (i : Nat) : Pt := l.getD i ⟨0, 0⟩
theorem ptL_get {l : List Pt} {i : Nat} (h : i < l.length) : ptL l i = l[i] := by simp [ptL, List.getD_eq_getElem?_getD, h]
/-- The corners, counterclockwise, are a triangle of the triangulation. -/
def belT (l : List Pt) (a b c : Nat) : Bool := belL l (rotT (ptL l a) (ptL l b) (ptL l c) 2).1 (rotT (ptL l a) (ptL l b) (ptL l c) 2).2.1 (rotT (ptL l a) (ptL l b) (ptL l c) 2).2.2
def crT (l : List Pt) (a b c : Nat) : Int := crossE (ptL l a) (ptL l b) (ptL l c)
def yes (l : List Pt) (a b c : Nat) : Bool := decide (0 < crT l a b c) && belT l a b c
def T3 (l : List Pt) (a b c : Nat) : List BT := if 0 < crT l a b c then (if belT l a b c then [mkB a b c] else []) else if crT l a b c < 0 then (if belT l a c b then [mkB a c b] else []) else []
def R3 (l : List Pt) (a b c : Nat) : List BT := if yes l a b c = true then [mkB a b c] else []
def progB (l : List Pt) (a b : Nat) (k : Nat) : List BT := accF (fun m => T3 l a b (b + 1 + m)) k
def progA (l : List Pt) (a : Nat) (k : Nat) : List BT := accF (fun m => progB l a (a + 1 + m) (l.length - (a + 1 + m + 1))) k
def progL (l : List Pt) (k : Nat) : List BT := accF (fun a => progA l a (l.length - (a + 1))) k
def refB (l : List Pt) (a b : Nat) (k : Nat) : List BT := accF (fun m => R3 l a b (a + 1 + m)) k
def refA (l : List Pt) (a : Nat) (k : Nat) : List BT := accF (fun m => refB l a (a + 1 + m) (l.length - (a + 1))) k
def refL (l : List Pt) (k : Nat) : List BT := accF (fun a => refA l a (l.length - (a + 1))) k
theorem cr_swap (l : List Pt) (a b c : Nat) : crT l a c b = -crT l a b c := by
  unfold crT crossE; grind
theorem T3_len (l : List Pt) (a b c : Nat) : (T3 l a b c).length ≤ 1 := by unfold T3; (repeat' split) <;> simp
theorem R3_len (l : List Pt) (a b c : Nat) : (R3 l a b c).length ≤ 1 := by unfold R3; (repeat' split) <;> simp
theorem T3_mem {l : List Pt} {a b c : Nat} {x : BT} : x ∈ T3 l a b c ↔ (yes l a b c = true ∧ x = mkB a b c) ∨ (yes l a c b = true ∧ x = mkB a c b) := by
  have h := cr_swap l a b c
  unfold T3 yes
  by_cases h1 : 0 < crT l a b c
  · have h2 : ¬ 0 < crT l a c b := by omega
    rw [if_pos h1, decide_eq_true h1, decide_eq_false h2]
    split <;> simp_all
  · rw [if_neg h1]
    by_cases h2 : crT l a b c < 0
    · have h3 : 0 < crT l a c b := by omega
      rw [if_pos h2, decide_eq_true h3, decide_eq_false h1]
      split <;> simp_all
    · have h3 : ¬ 0 < crT l a c b := by omega
      rw [if_neg h2, decide_eq_false h1, decide_eq_false h3]
      simp
theorem R3_mem {l : List Pt} {a b c : Nat} {x : BT} : x ∈ R3 l a b c ↔ yes l a b c = true ∧ x = mkB a b c := by
  unfold R3; split <;> simp_all
theorem yes_ne {l : List Pt} {a b c : Nat} (h : yes l a b c = true) : a ≠ b ∧ b ≠ c ∧ a ≠ c := by
  unfold yes crT at h
  simp only [Bool.and_eq_true, decide_eq_true_eq] at h
  have := cross_ne h.1
  refine ⟨fun e => this.1 (by rw [e]), fun e => this.2.1 (by rw [e]), fun e => this.2.2 (by rw [e])⟩
theorem prog_mem {l : List Pt} {x : BT} : x ∈ progL l l.length ↔ ∃ a b c, a < l.length ∧ b < l.length ∧ c < l.length ∧ a < b ∧ a < c ∧ yes l a b c = true ∧ x = mkB a b c := by
  unfold progL progA progB
  simp only [accF_mem, T3_mem]
  constructor
  · rintro ⟨a, ha, m, hm, q, hq, h | h⟩
    · exact ⟨a, a + 1 + m, a + 1 + m + 1 + q, by omega, by omega, by omega, by omega, by omega, h⟩
    · exact ⟨a, a + 1 + m + 1 + q, a + 1 + m, by omega, by omega, by omega, by omega, by omega, h⟩
  · rintro ⟨a, b, c, ha, hb, hc, hab, hac, hy, hx⟩
    have hn := yes_ne hy
    rcases Nat.lt_or_gt_of_ne hn.2.1 with h | h
    · refine ⟨a, ha, b - (a + 1), by omega, c - (b + 1), by omega, .inl ?_⟩
      rw [show a + 1 + (b - (a + 1)) = b by omega, show b + 1 + (c - (b + 1)) = c by omega]
      exact ⟨hy, hx⟩
    · refine ⟨a, ha, c - (a + 1), by omega, b - (c + 1), by omega, .inr ?_⟩
      rw [show a + 1 + (c - (a + 1)) = c by omega, show c + 1 + (b - (c + 1)) = b by omega]
      exact ⟨hy, hx⟩
theorem ref_mem {l : List Pt} {x : BT} : x ∈ refL l l.length ↔ ∃ a b c, a < l.length ∧ b < l.length ∧ c < l.length ∧ a < b ∧ a < c ∧ yes l a b c = true ∧ x = mkB a b c := by
  unfold refL refA refB
  simp only [accF_mem, R3_mem]
  constructor
  · rintro ⟨a, ha, m, hm, q, hq, h⟩
    exact ⟨a, a + 1 + m, a + 1 + q, by omega, by omega, by omega, by omega, by omega, h⟩
  · rintro ⟨a, b, c, ha, hb, hc, hab, hac, hy, hx⟩
    refine ⟨a, ha, b - (a + 1), by omega, c - (a + 1), by omega, ?_⟩
    rw [show a + 1 + (b - (a + 1)) = b by omega, show a + 1 + (c - (a + 1)) = c by omega]
    exact ⟨hy, hx⟩
/-- The order of the triangles, and that no two are equal. -/
def ltB (x y : BT) : Prop := x.1.a < y.1.a ∨ (x.1.a = y.1.a ∧ (x.1.b < y.1.b ∨ (x.1.b = y.1.b ∧ x.1.c < y.1.c)))
theorem ref_sorted {l : List Pt} (hl : l.length ≤ 64) : (refL l l.length).Pairwise ltB := by
  have hv : ∀ {a b c : Nat}, a < 100 → b < 100 → c < 100 → (mkB a b c).1.a = a ∧ (mkB a b c).1.b = b ∧ (mkB a b c).1.c = c := fun ha hb hc => by
    rw [mkB_val ha hb hc]; exact ⟨rfl, rfl, rfl⟩
  refine accF_pw (fun a ha => accF_pw (fun m hm => accF_pw (fun q hq => ?_) ?_) ?_) ?_
  · unfold R3; split <;> simp
  · intro i j hij hj x hx y hy
    obtain ⟨-, rfl⟩ := R3_mem.1 hx
    obtain ⟨-, rfl⟩ := R3_mem.1 hy
    have h1 := hv (a := a) (b := a + 1 + m) (c := a + 1 + i) (by omega) (by omega) (by omega)
    have h2 := hv (a := a) (b := a + 1 + m) (c := a + 1 + j) (by omega) (by omega) (by omega)
    unfold ltB; omega
  · intro i j hij hj x hx y hy
    obtain ⟨p, hp, hx⟩ := accF_mem.1 hx
    obtain ⟨q, hq, hy⟩ := accF_mem.1 hy
    obtain ⟨-, rfl⟩ := R3_mem.1 hx
    obtain ⟨-, rfl⟩ := R3_mem.1 hy
    have h1 := hv (a := a) (b := a + 1 + i) (c := a + 1 + p) (by omega) (by omega) (by omega)
    have h2 := hv (a := a) (b := a + 1 + j) (c := a + 1 + q) (by omega) (by omega) (by omega)
    unfold ltB; omega
  · intro i j hij hj x hx y hy
    obtain ⟨p, hp, hx⟩ := accF_mem.1 hx
    obtain ⟨q, hq, hy⟩ := accF_mem.1 hy
    obtain ⟨p', hp', hx⟩ := accF_mem.1 hx
    obtain ⟨q', hq', hy⟩ := accF_mem.1 hy
    obtain ⟨-, rfl⟩ := R3_mem.1 hx
    obtain ⟨-, rfl⟩ := R3_mem.1 hy
    have h1 := hv (a := i) (b := i + 1 + p) (c := i + 1 + p') (by omega) (by omega) (by omega)
    have h2 := hv (a := j) (b := j + 1 + q) (c := j + 1 + q') (by omega) (by omega) (by omega)
    unfold ltB; omega
theorem mkB_inj {a b c d e f : Nat} (ha : a < 100) (hb : b < 100) (hc : c < 100) (hd : d < 100) (he : e < 100) (hf : f < 100) (h : mkB a b c = mkB d e f) : a = d ∧ b = e ∧ c = f := by
  have h1 := congrArg Subtype.val h
  rw [mkB_val ha hb hc, mkB_val hd he hf, Tri.mk.injEq] at h1
  omega
theorem prog_nodup {l : List Pt} (hl : l.length ≤ 64) : (progL l l.length).Nodup := by
  refine accF_pw (fun a ha => accF_pw (fun m hm => accF_pw (fun q hq => ?_) ?_) ?_) ?_
  · show List.Pairwise _ (T3 l a _ _)
    unfold T3; (repeat' split) <;> simp
  · intro i j hij hj x hx y hy e
    subst e
    rcases T3_mem.1 hx with ⟨-, e1⟩ | ⟨-, e1⟩ <;> rcases T3_mem.1 hy with ⟨-, e2⟩ | ⟨-, e2⟩ <;>
      have := mkB_inj (by omega) (by omega) (by omega) (by omega) (by omega) (by omega) (e1.symm.trans e2) <;> omega
  · intro i j hij hj x hx y hy e
    subst e
    obtain ⟨p, hp, hx⟩ := accF_mem.1 hx
    obtain ⟨q, hq, hy⟩ := accF_mem.1 hy
    rcases T3_mem.1 hx with ⟨-, e1⟩ | ⟨-, e1⟩ <;> rcases T3_mem.1 hy with ⟨-, e2⟩ | ⟨-, e2⟩ <;>
      have := mkB_inj (by omega) (by omega) (by omega) (by omega) (by omega) (by omega) (e1.symm.trans e2) <;> omega
  · intro i j hij hj x hx y hy e
    subst e
    obtain ⟨p, hp, hx⟩ := accF_mem.1 hx
    obtain ⟨q, hq, hy⟩ := accF_mem.1 hy
    obtain ⟨p', hp', hx⟩ := accF_mem.1 hx
    obtain ⟨q', hq', hy⟩ := accF_mem.1 hy
    rcases T3_mem.1 hx with ⟨-, e1⟩ | ⟨-, e1⟩ <;> rcases T3_mem.1 hy with ⟨-, e2⟩ | ⟨-, e2⟩ <;>
      have := mkB_inj (by omega) (by omega) (by omega) (by omega) (by omega) (by omega) (e1.symm.trans e2) <;> omega
end Go.Pv.Geo

open Go Go.Proofs Go.Pv
set_option maxHeartbeats 8000000
set_option maxRecDepth 100000
set_option linter.unusedSimpArgs false
set_option linter.unusedVariables false
namespace Go.Pv.Geo
theorem c_Before (a b : Pt) (ha : ptOK a = true) (hb : ptOK b = true) : Contract Try.prog 79 [.agg (encPt a), .agg (encPt b)] (.ret (.bool (decide (key a < key b)))) := by
  have h := key_lt ha hb
  have e : decide (key a < key b) = decide (a.x < b.x ∨ (a.x = b.x ∧ a.y < b.y)) := decide_eq_decide.2 h
  rw [e]
  refine contract_of mix Try.func79 rfl rfl (by rw [Try.ntmps79]; exact Nat.le_of_ble_eq_true rfl) ?_; rw [Try.results79, Try.ntmps79]; simp only [argsE, Nat.reduceAdd]
  repeat' first
           | (with_reducible apply go_op)
           | (with_reducible apply go_next)
           | ((with_reducible (show evOp _ _ _ _ _ _)); first
             | (((with_reducible apply go_mv_bool); rfl; rfl))
             | ((with_reducible apply go_as))
             | (((with_reducible apply go_load_own); rfl; rfl; rfl; rfl))
             | (((with_reducible apply go_fieldAddr_own); rfl; rfl; rfl))
             | (((with_reducible apply go_cmp); rfl; rfl; rfl; rfl))
             | (((with_reducible apply go_pick); rfl; rfl; rfl))
             | (((with_reducible apply go_bx_agg); rfl; rfl; (exact Nat.le_of_ble_eq_true rfl); rfl; rfl)))
           | ((with_reducible (show evOps _ _ _ _ _ _)); first
             | (with_reducible apply go_nil)
             | ((with_reducible apply go_run); rfl; rfl)
             | ((with_reducible apply go_pass); rfl; rfl; rfl)
             | ((with_reducible apply go_skip); rfl; rfl)
             | (((with_reducible apply go_guard); rfl) <;> (intro h; simp only [h, Bool.not_true, Bool.not_false]; (try with_reducible (refine ⟨rfl, ?_⟩)); try simp only [decide_eq_true_eq, decide_eq_false_iff_not, Bool.not_eq_true', Bool.not_eq_false', Bool.not_true, Bool.not_false] at h; try exact absurd trivial h)))
           | ((with_reducible (show evG _ _ _ _ _)); first
             | (with_reducible apply go_seq)
             | (with_reducible apply go_region)
             | (with_reducible apply go_ret))
           | (with_reducible apply go_kseq)
           | ((with_reducible apply end_bool); rfl)
  all_goals first
    | (simp; omega)
    | (simp_all; done)
    | trace_state
def wrapT (l : List Pt) (a : Pt) (m : Nat) : Pt := (l.take m).foldl (wrapN a) a
theorem wrapT_step {l : List Pt} {a : Pt} {m : Nat} (hm : m < l.length) : wrapT l a (m + 1) = wrapN a (wrapT l a m) l[m] := by
  unfold wrapT
  rw [List.take_add_one, List.getElem?_eq_getElem hm, List.foldl_append]
  rfl
theorem wrapT_all (l : List Pt) (a : Pt) : wrapT l a l.length = wrapS l a := by unfold wrapT wrapS; rw [List.take_length]
theorem wrapT_mem {l : List Pt} {a : Pt} (ha : a ∈ l) : ∀ m, m ≤ l.length → wrapT l a m ∈ l
  | 0, _ => by simpa [wrapT] using ha
  | m + 1, hm => by
    rw [wrapT_step (by omega)]
    unfold wrapN; split
    · exact List.getElem_mem _
    · exact wrapT_mem ha m (by omega)
theorem hullR_ne {l : List Pt} (hok : ∀ p ∈ l, ptOK p = true) {j : Nat} (hj : j + 1 < (hullR l).length) : (hullR l)[j + 1] ≠ (hullR l)[0]'(by omega) ∧ (hullR l)[j + 1] ≠ (hullR l)[j] := by
  have h2 : 2 ≤ (ordL l).length := by
    apply Classical.byContradiction; intro hn
    have e : hullR l = ordL l := if_pos (by omega)
    rw [e] at hj; omega
  have hn := (hullR_of hok h2).1.nodup
  refine ⟨fun e => ?_, fun e => ?_⟩
  · have := (List.getElem_inj hn).1 e; omega
  · have := (List.getElem_inj hn).1 e; omega
theorem sign_lt0 {n : Int} : signE n < 0 ↔ n < 0 := by unfold signE; (repeat' split) <;> omega
theorem sign_eq0 {n : Int} : signE n = 0 ↔ n = 0 := by unfold signE; (repeat' split) <;> omega
theorem c_rHull (l : List Pt) (hl : l.length ≤ 1000000) (hok : ∀ p ∈ l, ptOK p = true) : Contract Try.prog 29 [.sl (l.map encPt)] (.ret (.fr 2 ((hullR l).map encPt))) := by
  by_cases h0 : 0 < l.length
  rotate_left
  · have hnil : l = [] := List.eq_nil_of_length_eq_zero (by omega)
    subst hnil
    have e : hullR [] = [] := by
      have := ord_len []
      have e2 : ordL [] = [] := List.eq_nil_of_length_eq_zero (by simpa using this)
      rw [show hullR [] = ordL [] from if_pos (by rw [e2]; decide), e2]
    rw [e]
    refine contract_of mix Try.func29 rfl rfl (by rw [Try.ntmps29]; exact Nat.le_of_ble_eq_true rfl) ?_; rw [Try.results29, Try.ntmps29]; simp only [argsE, Nat.reduceAdd]
    repeat' first
           | (with_reducible apply go_op)
           | (with_reducible apply go_next)
           | ((with_reducible (show evOp _ _ _ _ _ _)); first
             | ((with_reducible (show evOp _ (.move _) _ _ _ _)) ; first | ((with_reducible apply go_mv_sl); rfl; rfl) | ((with_reducible apply go_mv_nilsl); rfl; rfl))
             | ((with_reducible apply go_as))
             | (((with_reducible apply go_cmp); rfl; rfl; rfl; rfl))
             | (((with_reducible apply go_len); rfl; rfl)))
           | ((with_reducible (show evOps _ _ _ _ _ _)); first
             | (with_reducible apply go_nil))
           | ((with_reducible (show evG _ _ _ _ _)); first
             | (with_reducible apply go_seq)
             | (with_reducible apply go_region)
             | ((with_reducible apply go_cond_t); rfl; rfl)
             | (with_reducible apply go_ret))
           | (with_reducible apply go_kseq)
           | (with_reducible apply go_kseq_ret)
    all_goals first
      | (exfalso; omega)
      | (exfalso; simp at *; done)
      | exact finK_ret (fin_nil1 rfl)
      | trace_state
  have hH := hullR_pos hok h0
  refine contract_of mix Try.func29 rfl rfl (by rw [Try.ntmps29]; exact Nat.le_of_ble_eq_true rfl) ?_; rw [Try.results29, Try.ntmps29]; simp only [argsE, Nat.reduceAdd]
  repeat' first
           | (with_reducible apply go_op)
           | (with_reducible apply go_next)
           | ((with_reducible (show evOp _ _ _ _ _ _)); first
             | ((with_reducible (show evOp _ (.move _) _ _ _ _)) ; first | ((with_reducible apply go_mv_int); rfl; rfl) | ((with_reducible apply go_mv_sl); rfl; rfl) | ((with_reducible apply go_mv_nilsl); rfl; rfl))
             | ((with_reducible apply go_as))
             | (((with_reducible apply go_ld_ptr); rfl; rfl; rfl))
             | (((with_reducible apply go_index); rfl; rfl; (intro; rfl); rfl; omega; intro hlt))
             | (((with_reducible apply go_cmp); rfl; rfl; rfl; rfl))
             | (((with_reducible apply go_len); rfl; rfl))
             | (((with_reducible apply go_st_agg); rfl; rfl; rfl; rfl; rfl; rfl; rfl))
             | (((with_reducible apply go_alloc); rfl; rfl; rfl)))
           | ((with_reducible (show evOps _ _ _ _ _ _)); first
             | (with_reducible apply go_nil))
           | ((with_reducible (show evG _ _ _ _ _)); first
             | (with_reducible apply go_seq)
             | (with_reducible apply go_region)
             | (((with_reducible apply go_cond); rfl) <;> (intro h; simp only [h]; try simp only [decide_eq_true_eq, decide_eq_false_iff_not, Bool.not_eq_true', Bool.not_eq_false', Bool.not_true, Bool.not_false] at h; try exact absurd trivial h))
             | (with_reducible apply go_ret)
             | (with_reducible apply go_skipc)
             | (with_reducible apply go_block))
           | (with_reducible apply go_kseq)
           | (with_reducible apply go_kseq_ret)
           | ((with_reducible apply end_ret); apply fin1; rfl; rfl; rfl)
  all_goals try (exfalso; omega)
  refine go_count (l.length - 1) (fun i => ⟨[(4, .int .i64 ((i + 1 : Nat) : Int)), (3, .op 0 0 0), (0, .sl (l.map encPt))], [(0, ⟨2, true, [encPt (minT l (i + 1))]⟩)], 32, 99⟩) (fun i => True)
    (entails_eq (nx := 32) (k := 0) (ns := []) (ks := [4, 3, 0]) [(224, 0)] rfl (by simp) (by simp only [Nat.zero_add]; rw [minT_one h0]; kernel_rfl)) trivial ?_
  intro i hi _
  by_cases hlt : i + 1 < l.length
  · have hst := minT_step hlt
    have y1 := c_Before l[i + 1] (minT l (i + 1)) (hok _ (List.getElem_mem _)) (hok _ (minT_spec h0 (i + 1) (by omega)).1)
    unfold minN at hst
    generalize minT l (i + 1) = f at *
    repeat' first
           | (with_reducible apply go_op)
           | (with_reducible apply go_next)
           | ((with_reducible (show evOp _ _ _ _ _ _)); first
             | ((with_reducible (show evOp _ (.move _) _ _ _ _)) ; first | ((with_reducible apply go_mv_int); rfl; rfl) | ((with_reducible apply go_mv_sl); rfl; rfl) | ((with_reducible apply go_mv_os); rfl; rfl))
             | ((with_reducible apply go_as))
             | ((with_reducible (show evOp _ (.load _ _) _ _ _ _)) ; first | ((with_reducible apply go_ld_ptr); rfl; rfl; rfl) | ((with_reducible apply go_ld_agg); rfl; rfl; rfl; rfl))
             | (((with_reducible apply go_index_nat); rfl; rfl; (with_reducible rfl); (intro; rfl); rfl; omega; (intro hlt)))
             | ((with_reducible (show evOp _ (.binOp _ _ _ _ _) _ _ _ _)) ; first | ((with_reducible apply go_cmp); rfl; rfl; rfl; rfl) | ((with_reducible apply go_add); rfl; rfl; rfl; omega))
             | ((with_reducible (show evOp _ (.call _) _ _ _ _)) ; first | ((with_reducible apply go_len); rfl; rfl) | ((with_reducible apply go_fn_bool); rfl; (exact y1); rfl))
             | (((with_reducible apply go_st_agg); rfl; rfl; rfl; rfl; rfl; rfl; rfl))
             | (((with_reducible apply go_bs1_agg); rfl; rfl; rfl; rfl; rfl; rfl)))
           | ((with_reducible (show evOps _ _ _ _ _ _)); first
             | (with_reducible apply go_nil)
             | ((with_reducible apply go_pre); rfl)
             | (with_reducible apply go_pre_nil)
             | ((with_reducible apply go_suf); rfl)
             | (with_reducible apply go_suf_nil))
           | ((with_reducible (show evG _ _ _ _ _)); first
             | (with_reducible apply go_seq)
             | (with_reducible apply go_region)
             | (((with_reducible apply go_cond); rfl) <;> (intro h; simp only [h]; try simp only [decide_eq_true_eq, decide_eq_false_iff_not, Bool.not_eq_true', Bool.not_eq_false', Bool.not_true, Bool.not_false] at h; try exact absurd trivial h))
             | ((with_reducible apply go_order); kernel_rfl; rfl)
             | (with_reducible apply go_skipc)
             | (with_reducible apply go_block)
             | (with_reducible apply go_exit))
           | (with_reducible apply go_kseq)
           | (with_reducible apply go_ksuf)
           | (with_reducible apply go_kblock)
           | (with_reducible apply go_kblock_exit)
           | (with_reducible apply go_kseq_exit)
    all_goals try (exfalso; omega)
    · refine ⟨by omega, trivial, ?_⟩
      rw [show minT l (i + 1 + 1) = l[i + 1] by rw [hst, if_pos (by assumption)]]
      exact entails_eq (nx := 32) (k := 0) (ns := []) (ks := [4, 3, 0]) [(0, 0)] rfl (by simp) (by kernel_rfl)
    · refine ⟨by omega, trivial, ?_⟩
      rw [show minT l (i + 1 + 1) = f by rw [hst, if_neg (by assumption)]]
      exact entails_eq (nx := 32) (k := 0) (ns := []) (ks := [4, 3, 0]) [(0, 0)] rfl (by simp) (by kernel_rfl)
  have e : i + 1 = l.length := by omega
  rw [e]
  obtain ⟨f0, hf0⟩ : ∃ f, f = minT l l.length := ⟨_, rfl⟩
  rw [← hf0]
  have hf : ∀ h : 0 < (hullR l).length, f0 = (hullR l)[0]'h := fun h => hf0.trans (minT_all hok h0)
  clear hf0
  have hkl := hullR_len hok
  have hmem : ∀ p ∈ hullR l, p ∈ l := fun p hp => hullR_mem hok hp
  have hwr : ∀ j (hj : j < (hullR l).length) (hm : (j + 1) % (hullR l).length < (hullR l).length), wrapS l ((hullR l)[j]'hj) = (hullR l)[(j + 1) % (hullR l).length]'hm := fun j hj hm => hullR_wrap hok hj
  have hne : ∀ j (hj : j + 1 < (hullR l).length) (ha : 0 < (hullR l).length) (hb : j < (hullR l).length), (hullR l)[j + 1]'hj ≠ (hullR l)[0]'ha ∧ (hullR l)[j + 1]'hj ≠ (hullR l)[j]'hb := fun j hj ha hb => hullR_ne hok hj
  clear e hi hlt
  generalize hullR l = H at *
  repeat' first
           | (with_reducible apply go_op)
           | (with_reducible apply go_next)
           | ((with_reducible (show evOp _ _ _ _ _ _)); first
             | ((with_reducible (show evOp _ (.move _) _ _ _ _)) ; first | ((with_reducible apply go_mv_int); rfl; rfl) | ((with_reducible apply go_mv_sl); rfl; rfl) | ((with_reducible apply go_mv_os); rfl; rfl))
             | ((with_reducible apply go_as))
             | ((with_reducible (show evOp _ (.load _ _) _ _ _ _)) ; first | ((with_reducible apply go_ld_ptr); rfl; rfl; rfl) | ((with_reducible apply go_ld_agg); rfl; rfl; rfl; rfl))
             | (((with_reducible apply go_index_nat); rfl; rfl; (with_reducible rfl); (intro; rfl); rfl; omega; (intro hlt)))
             | (((with_reducible apply go_cmp); rfl; rfl; rfl; rfl))
             | (((with_reducible apply go_len); rfl; rfl))
             | (((with_reducible apply go_bs1_agg); rfl; rfl; rfl; rfl; rfl; rfl)))
           | ((with_reducible (show evOps _ _ _ _ _ _)); first
             | (with_reducible apply go_nil)
             | ((with_reducible apply go_pre); rfl))
           | ((with_reducible (show evG _ _ _ _ _)); first
             | (with_reducible apply go_seq)
             | (with_reducible apply go_region)
             | (((with_reducible apply go_cond); rfl) <;> (intro h; simp only [h]; try simp only [decide_eq_true_eq, decide_eq_false_iff_not, Bool.not_eq_true', Bool.not_eq_false', Bool.not_true, Bool.not_false] at h; try exact absurd trivial h))
             | ((with_reducible apply go_order); kernel_rfl; rfl)
             | (with_reducible apply go_skipc)
             | (with_reducible apply go_block)
             | (with_reducible apply go_exit))
           | (with_reducible apply go_kseq)
           | (with_reducible apply go_kblock_exit)
           | (with_reducible apply go_kseq_exit)
  all_goals try (exfalso; omega)
  have hfH := hf hH
  have hne0 : ∀ j (hj : j + 1 < H.length), H[j + 1] ≠ f0 := fun j hj => by rw [hfH]; exact (hne j hj hH (by omega)).1
  refine go_count (H.length - 1) (fun j => ⟨[(5, .os 1 0 (j + 1)), (3, .op 0 0 0), (0, .sl (l.map encPt))], [(1, ⟨2, true, (H.take (j + 1)).map encPt⟩), (0, ⟨2, true, [encPt f0]⟩)], 32, 99⟩) (fun j => True)
    (entails_eq (nx := 32) (k := 0) (ns := []) (ks := [5, 3, 0]) [(192, 1), (0, 0)] rfl (by simp) (by rw [show H.take (0 + 1) = [f0] by rw [hfH, List.take_one, List.head?_eq_getElem?, List.getElem?_eq_getElem hH]; rfl]; kernel_rfl)) trivial ?_
  intro j hj _
  have hjH : j < H.length := by omega
  have htl : (H.take (j + 1)).length = j + 1 := by rw [List.length_take]; omega
  have htg : ∀ h : j < (H.take (j + 1)).length, (H.take (j + 1))[j]'h = H[j] := fun h => List.getElem_take
  have hTn : ∀ h : j + 1 < H.length, H.take (j + 1) ++ [H[j + 1]] = H.take (j + 1 + 1) := fun h => by rw [List.take_add_one (i := j + 1), List.getElem?_eq_getElem h]; rfl
  have hTe : j + 1 = H.length → H.take (j + 1) = H := fun h => List.take_of_length_le (by omega)
  have hoka : ptOK H[j] = true := hok _ (hmem _ (List.getElem_mem _))
  have hma : H[j] ∈ l := hmem _ (List.getElem_mem _)
  have hwj := hwr j hjH (Nat.mod_lt _ hH)
  have hnj : ∀ h : j + 1 < H.length, H[j + 1] ≠ f0 ∧ H[j + 1] ≠ H[j] := fun h => ⟨hne0 j h, (hne j h hH hjH).2⟩
  have hwj1 : ∀ h : j + 1 < H.length, wrapS l H[j] = H[j + 1] := fun h => by rw [hwj]; congr 1; exact Nat.mod_eq_of_lt h
  have hwj2 : j + 1 = H.length → wrapS l H[j] = f0 := fun h => by rw [hwj, hfH]; congr 1; rw [h]; exact Nat.mod_self _
  clear hwj hwr hne hne0 hf hmem
  generalize hA : H[j] = a at *
  generalize hT : H.take (j + 1) = T at *
  have hTa : ∀ h : 0 + j < T.length, T[0 + j]'h = a := fun h => by rw [← htg (by omega)]; congr 1; omega
  repeat' first
           | ((with_reducible apply (go_index_oq (i := j))); rfl; rfl; rfl; omega; rfl; rfl; (exact ⟨by omega, by omega⟩); (intro hlt))
           | (with_reducible apply go_op)
           | (with_reducible apply go_next)
           | ((with_reducible (show evOp _ _ _ _ _ _)); first
             | ((with_reducible (show evOp _ (.move _) _ _ _ _)) ; first | ((with_reducible apply go_mv_int); rfl; rfl) | ((with_reducible apply go_mv_sl); rfl; rfl) | ((with_reducible apply go_mv_os); rfl; rfl))
             | ((with_reducible apply go_as))
             | ((with_reducible (show evOp _ (.load _ _) _ _ _ _)) ; first | ((with_reducible apply go_load_om); rfl; rfl; rfl; rfl; rotate_left; assumption) | ((with_reducible apply go_ld_agg); rfl; rfl; rfl; rfl))
             | ((with_reducible (show evOp _ (.binOp _ _ _ _ _) _ _ _ _)) ; first | ((with_reducible apply go_cmp); rfl; rfl; rfl; rfl) | ((with_reducible apply go_sub); rfl; rfl; rfl; omega))
             | ((with_reducible (show evOp _ (.call _) _ _ _ _)) ; first | ((with_reducible apply go_len); rfl; rfl) | ((with_reducible apply go_len_own); rfl; rfl; rfl))
             | (((with_reducible apply go_st_agg); rfl; rfl; rfl; rfl; rfl; rfl; rfl))
             | (((with_reducible apply go_alloc); rfl; rfl; rfl)))
           | ((with_reducible (show evOps _ _ _ _ _ _)); first
             | (with_reducible apply go_nil))
           | ((with_reducible (show evG _ _ _ _ _)); first
             | (with_reducible apply go_seq)
             | (with_reducible apply go_region)
             | (((with_reducible apply go_cond); rfl) <;> (intro h; simp only [h]; try simp only [decide_eq_true_eq, decide_eq_false_iff_not, Bool.not_eq_true', Bool.not_eq_false', Bool.not_true, Bool.not_false] at h; try exact absurd trivial h))
             | (with_reducible apply go_ret)
             | (with_reducible apply go_skipc)
             | (with_reducible apply go_block)
             | (with_reducible apply go_exit))
           | (with_reducible apply go_kseq)
           | (with_reducible apply go_kblock_exit)
           | (with_reducible apply go_kseq_exit)
  all_goals try (exfalso; omega)
  simp only [hTa]
  refine go_count l.length (fun m => ⟨[(8, .int .i64 m), (7, .op 3 0 0), (6, .op 2 0 0), (5, .os 1 0 (j + 1)), (3, .op 0 0 0), (0, .sl (l.map encPt))], [(1, ⟨2, true, T.map encPt⟩), (0, ⟨2, true, [encPt f0]⟩), (2, ⟨2, true, [encPt a]⟩), (3, ⟨2, true, [encPt (wrapT l a m)]⟩)], 32, 99⟩) (fun m => True)
    (entails_eq (nx := 32) (k := 0) (ns := []) (ks := [8, 7, 6, 5, 3, 0]) [(1, 1), (0, 0), (384, 2), (480, 3)] rfl (by simp) (by kernel_rfl)) trivial ?_
  intro m hm _
  by_cases hlt : m < l.length
  · have hst := wrapT_step (a := a) hlt
    have hokn := hok _ (wrapT_mem hma m (by omega))
    have hokp := hok _ (List.getElem_mem hlt)
    unfold wrapN at hst
    generalize wrapT l a m = nx at *
    have y1 := c_rorient a nx l[m] hoka hokn hokp
    have y2 := c_rsquare a l[m] hoka hokp
    have y3 := c_rsquare a nx hoka hokn
    have s1 := sign_lt0 (n := crossE a nx l[m])
    have s2 := sign_eq0 (n := crossE a nx l[m])
    have hpt := ptEq_iff (a := nx) (b := a)
    unfold ptEq at hpt
    have hyes : (nx = a ∨ crossE a nx l[m] < 0 ∨ (crossE a nx l[m] = 0 ∧ sqE a nx < sqE a l[m])) → wrapT l a (m + 1) = l[m] := fun h => by rw [hst, if_pos h]
    have hno : ¬ (nx = a ∨ crossE a nx l[m] < 0 ∨ (crossE a nx l[m] = 0 ∧ sqE a nx < sqE a l[m])) → wrapT l a (m + 1) = nx := fun h => by rw [hst, if_neg h]
    clear hst
    generalize signE (crossE a nx l[m]) = sg at *
    generalize crossE a nx l[m] = cr at *
    repeat' first
           | (with_reducible apply go_op)
           | (with_reducible apply go_next)
           | ((with_reducible (show evOp _ _ _ _ _ _)); first
             | ((with_reducible (show evOp _ (.move _) _ _ _ _)) ; first | ((with_reducible apply go_mv_int); rfl; rfl) | ((with_reducible apply go_mv_bool); rfl; rfl) | ((with_reducible apply go_mv_sl); rfl; rfl) | ((with_reducible apply go_mv_os); rfl; rfl))
             | ((with_reducible apply go_as))
             | ((with_reducible (show evOp _ (.load _ _) _ _ _ _)) ; first | ((with_reducible apply go_ld_ptr); rfl; rfl; rfl) | ((with_reducible apply go_ld_agg); rfl; rfl; rfl; rfl))
             | (((with_reducible apply go_index_nat); rfl; rfl; (with_reducible rfl); (intro; rfl); rfl; omega; (intro hlt)))
             | ((with_reducible (show evOp _ (.binOp _ _ _ _ _) _ _ _ _)) ; first | ((with_reducible apply go_cmp); rfl; rfl; rfl; rfl) | ((with_reducible apply go_add); rfl; rfl; rfl; omega) | ((with_reducible apply go_eql_agg); rfl; rfl; rfl; rfl))
             | ((with_reducible (show evOp _ (.call _) _ _ _ _)) ; first | ((with_reducible apply go_len); rfl; rfl) | ((with_reducible apply go_fn_int); rfl; (exact y1); rfl) | ((with_reducible apply go_fn_int); rfl; (exact y2); rfl) | ((with_reducible apply go_fn_int); rfl; (exact y3); rfl))
             | (((with_reducible apply go_st_agg); rfl; rfl; rfl; rfl; rfl; rfl; rfl))
             | (((with_reducible apply go_pick); rfl; rfl; rfl))
             | (((with_reducible apply go_bs1_agg); rfl; rfl; rfl; rfl; rfl; rfl)))
           | ((with_reducible (show evOps _ _ _ _ _ _)); first
             | (with_reducible apply go_nil)
             | ((with_reducible apply go_run); rfl; rfl)
             | ((with_reducible apply go_pass); rfl; rfl; rfl)
             | ((with_reducible apply go_skip); rfl; rfl)
             | (((with_reducible apply go_guard); rfl) <;> (intro h; simp only [h, Bool.not_true, Bool.not_false]; (try with_reducible (refine ⟨rfl, ?_⟩)); try simp only [decide_eq_true_eq, decide_eq_false_iff_not, Bool.not_eq_true', Bool.not_eq_false', Bool.not_true, Bool.not_false] at h; try exact absurd trivial h))
             | ((with_reducible apply go_pre); rfl)
             | (with_reducible apply go_pre_nil)
             | ((with_reducible apply go_suf); rfl)
             | (with_reducible apply go_suf_nil))
           | ((with_reducible (show evG _ _ _ _ _)); first
             | (with_reducible apply go_seq)
             | (with_reducible apply go_region)
             | ((with_reducible apply go_cond_t); rfl; rfl)
             | ((with_reducible apply go_cond_f); rfl; rfl)
             | (((with_reducible apply go_cond); rfl) <;> (intro h; simp only [h]; try simp only [decide_eq_true_eq, decide_eq_false_iff_not, Bool.not_eq_true', Bool.not_eq_false', Bool.not_true, Bool.not_false] at h; try exact absurd trivial h))
             | ((with_reducible apply go_order); kernel_rfl; rfl)
             | (with_reducible apply go_ret)
             | (with_reducible apply go_skipc)
             | (with_reducible apply go_block)
             | (with_reducible apply go_exit))
           | (with_reducible apply go_kseq)
           | (with_reducible apply go_ksuf)
           | (with_reducible apply go_kblock)
           | (with_reducible apply go_kblock_exit)
           | ((with_reducible apply go_kblock_other); rfl)
           | (with_reducible apply go_kseq_exit)
    all_goals try (exfalso; omega)
    all_goals first
      | (refine ⟨by omega, trivial, ?_⟩
         rw [hyes (by first | exact Or.inl (hpt.1 (by assumption)) | exact Or.inr (Or.inl (by omega)) | exact Or.inr (Or.inr ⟨by omega, by omega⟩))]
         exact entails_eq (nx := 32) (k := 0) (ns := []) (ks := [8, 7, 6, 5, 3, 0]) [(1, 1), (0, 0), (2, 2), (3, 3)] rfl (by simp) (by kernel_rfl))
      | (refine ⟨by omega, trivial, ?_⟩
         have hne : ¬ nx = a := fun e => by have := hpt.2 e; simp_all
         rw [hno (by rintro (h | h | h); exact hne h; omega; omega)]
         exact entails_eq (nx := 32) (k := 0) (ns := []) (ks := [8, 7, 6, 5, 3, 0]) [(1, 1), (0, 0), (2, 2), (3, 3)] rfl (by simp) (by kernel_rfl))
      | trace_state
  have e : m = l.length := by omega
  rw [e, wrapT_all]
  have hpf := ptEq_iff (a := wrapS l a) (b := f0)
  have hpa := ptEq_iff (a := wrapS l a) (b := a)
  unfold ptEq at hpf hpa
  clear e hm hlt
  by_cases hlast : j + 1 < H.length
  · have hw := hwj1 hlast
    have h2 := hnj hlast
    have hT1 := hTn hlast
    generalize hnx : H[j + 1] = q at *
    rw [hw] at hpf hpa
    rw [hw]
    have f1 : (decide (q.x = f0.x) && (decide (q.y = f0.y) && true)) = false := by
      rw [Bool.eq_false_iff]; intro h; exact h2.1 (hpf.1 h)
    have f2 : (decide (q.x = a.x) && (decide (q.y = a.y) && true)) = false := by
      rw [Bool.eq_false_iff]; intro h; exact h2.2 (hpa.1 h)
    repeat' first
           | (with_reducible apply go_op)
           | (with_reducible apply go_next)
           | ((with_reducible (show evOp _ _ _ _ _ _)); first
             | ((with_reducible (show evOp _ (.move _) _ _ _ _)) ; first | ((with_reducible apply go_mv_int); rfl; rfl) | ((with_reducible apply go_mv_bool); rfl; rfl) | ((with_reducible apply go_mv_sl); rfl; rfl) | ((with_reducible apply go_mv_os); rfl; rfl))
             | ((with_reducible apply go_as))
             | ((with_reducible (show evOp _ (.load _ _) _ _ _ _)) ; first | ((with_reducible apply go_ld_ptr); rfl; rfl; rfl) | ((with_reducible apply go_ld_agg); rfl; rfl; rfl; rfl))
             | (((with_reducible apply go_index_nat); rfl; rfl; (with_reducible rfl); (intro; rfl); rfl; omega; (intro hlt)))
             | ((with_reducible (show evOp _ (.binOp _ _ _ _ _) _ _ _ _)) ; first | ((with_reducible apply go_cmp); rfl; rfl; rfl; rfl) | ((with_reducible apply go_eql_agg); rfl; rfl; rfl; rfl))
             | (((with_reducible apply go_len); rfl; rfl))
             | (((with_reducible apply go_pick); rfl; rfl; rfl))
             | (((with_reducible apply go_bs1_agg); rfl; rfl; rfl; rfl; rfl; rfl)))
           | ((with_reducible (show evOps _ _ _ _ _ _)); first
             | (with_reducible apply go_nil)
             | ((with_reducible apply go_run); rfl; rfl)
             | ((with_reducible apply go_pass); rfl; rfl; rfl)
             | (((with_reducible apply go_guard); rfl) <;> (intro h; simp only [h, Bool.not_true, Bool.not_false]; (try with_reducible (refine ⟨rfl, ?_⟩)); try simp only [decide_eq_true_eq, decide_eq_false_iff_not, Bool.not_eq_true', Bool.not_eq_false', Bool.not_true, Bool.not_false] at h; try exact absurd trivial h))
             | ((with_reducible apply go_pre); rfl))
           | ((with_reducible (show evG _ _ _ _ _)); first
             | (with_reducible apply go_seq)
             | (with_reducible apply go_region)
             | ((with_reducible apply go_cond_t); rfl; rfl)
             | (((with_reducible apply go_cond); rfl) <;> (intro h; simp only [h]; try simp only [decide_eq_true_eq, decide_eq_false_iff_not, Bool.not_eq_true', Bool.not_eq_false', Bool.not_true, Bool.not_false] at h; try exact absurd trivial h))
             | ((with_reducible apply go_order); kernel_rfl; rfl)
             | (with_reducible apply go_ret)
             | (with_reducible apply go_skipc)
             | (with_reducible apply go_block)
             | (with_reducible apply go_exit))
           | (with_reducible apply go_kseq)
           | (with_reducible apply go_kblock_exit)
           | ((with_reducible apply go_kblock_other); rfl)
           | (with_reducible apply go_kseq_exit)
    all_goals try (exfalso; omega)
    all_goals try (exfalso; rw [f1] at *; contradiction)
    all_goals try (exfalso; rw [f2] at *; contradiction)
    refine go_app_map (f := encPt) (a := q) (l := T) scalPt rfl rfl rfl htl rfl (by kernel_rfl) (by kernel_rfl) (by kernel_rfl) (by omega) rfl ?_
    rw [hT1]
    repeat' first
           | (with_reducible apply go_op)
           | (with_reducible apply go_next)
           | ((with_reducible (show evOp _ _ _ _ _ _)); first
             | (((with_reducible apply go_mv_os); rfl; rfl))
             | ((with_reducible apply go_as)))
           | ((with_reducible (show evOps _ _ _ _ _ _)); first
             | (with_reducible apply go_nil))
           | (with_reducible apply go_kseq)
           | (with_reducible apply go_kblock)
    exact ⟨by omega, trivial, entails_eq (nx := 32) (k := 0) (ns := []) (ks := [5, 3, 0]) [(1, 1), (0, 0)] rfl (by simp) (by kernel_rfl)⟩
  · have hw := hwj2 (by omega)
    have hT1 := hTe (by omega)
    rw [hw]
    have f1 : (decide (f0.x = f0.x) && (decide (f0.y = f0.y) && true)) = true := by simp
    repeat' first
           | (with_reducible apply go_op)
           | (with_reducible apply go_next)
           | ((with_reducible (show evOp _ _ _ _ _ _)); first
             | ((with_reducible (show evOp _ (.move _) _ _ _ _)) ; first | ((with_reducible apply go_mv_int); rfl; rfl) | ((with_reducible apply go_mv_bool); rfl; rfl) | ((with_reducible apply go_mv_sl); rfl; rfl) | ((with_reducible apply go_mv_os); rfl; rfl))
             | ((with_reducible apply go_as))
             | ((with_reducible (show evOp _ (.load _ _) _ _ _ _)) ; first | ((with_reducible apply go_ld_ptr); rfl; rfl; rfl) | ((with_reducible apply go_ld_agg); rfl; rfl; rfl; rfl))
             | (((with_reducible apply go_index_nat); rfl; rfl; (with_reducible rfl); (intro; rfl); rfl; omega; (intro hlt)))
             | ((with_reducible (show evOp _ (.binOp _ _ _ _ _) _ _ _ _)) ; first | ((with_reducible apply go_cmp); rfl; rfl; rfl; rfl) | ((with_reducible apply go_eql_agg); rfl; rfl; rfl; rfl))
             | (((with_reducible apply go_len); rfl; rfl))
             | (((with_reducible apply go_pick); rfl; rfl; rfl)))
           | ((with_reducible (show evOps _ _ _ _ _ _)); first
             | (with_reducible apply go_nil)
             | ((with_reducible apply go_pass); rfl; rfl; rfl)
             | (((with_reducible apply go_guard); rfl) <;> (intro h; simp only [h, Bool.not_true, Bool.not_false]; (try with_reducible (refine ⟨rfl, ?_⟩)); try simp only [decide_eq_true_eq, decide_eq_false_iff_not, Bool.not_eq_true', Bool.not_eq_false', Bool.not_true, Bool.not_false] at h; try exact absurd trivial h))
             | ((with_reducible apply go_pre); rfl))
           | ((with_reducible (show evG _ _ _ _ _)); first
             | (with_reducible apply go_seq)
             | (with_reducible apply go_region)
             | ((with_reducible apply go_cond_t); rfl; rfl)
             | (((with_reducible apply go_cond); rfl) <;> (intro h; simp only [h]; try simp only [decide_eq_true_eq, decide_eq_false_iff_not, Bool.not_eq_true', Bool.not_eq_false', Bool.not_true, Bool.not_false] at h; try exact absurd trivial h))
             | ((with_reducible apply go_order); kernel_rfl; rfl)
             | (with_reducible apply go_ret)
             | (with_reducible apply go_skipc)
             | (with_reducible apply go_block)
             | (with_reducible apply go_exit))
           | (with_reducible apply go_kseq)
           | (with_reducible apply go_kblock_exit)
           | ((with_reducible apply go_kblock_other); rfl)
           | (with_reducible apply go_kseq_exit)
    all_goals try (exfalso; omega)
    all_goals first
      | (exfalso; simp at *; done)
      | exact end_frn (l := T) rfl rfl htl hT1
      | trace_state
end Go.Pv.Geo

open Go Go.Proofs Go.Pv
set_option maxHeartbeats 8000000
set_option maxRecDepth 100000
set_option linter.unusedSimpArgs false
set_option linter.unusedVariables false
namespace Go.Pv.Geo
theorem c_belongs (l : List Pt) (hl : l.length ≤ 64) (hok : ∀ p ∈ l, ptOK p = true) (hf : farL l = false) (a b c : Pt) (ha : a ∈ l) (hb : b ∈ l) (hc : c ∈ l) :
    Contract Try.prog 113 [.sl (l.map encPt), .agg (encT3 a b c)] (.ret (.bool (belL l (rotT a b c 2).1 (rotT a b c 2).2.1 (rotT a b c 2).2.2))) := by
  have hm := rotT_mem ha hb hc
  refine contract_of mix Try.func113 rfl rfl (by rw [Try.ntmps113]; exact Nat.le_of_ble_eq_true rfl) ?_; rw [Try.results113, Try.ntmps113]; simp only [argsE, Nat.reduceAdd]
  repeat' first
           | (with_reducible apply go_op)
           | (with_reducible apply go_next)
           | ((with_reducible (show evOp _ _ _ _ _ _)); first
             | ((with_reducible (show evOp _ (.move _) _ _ _ _)) ; first | ((with_reducible apply go_mv_int); rfl; rfl) | ((with_reducible apply go_mv_bool); rfl; rfl))
             | ((with_reducible apply go_as))
             | (((with_reducible apply go_bx_agg); rfl; rfl; (exact Nat.le_of_ble_eq_true rfl); rfl; rfl)))
           | ((with_reducible (show evOps _ _ _ _ _ _)); first
             | (with_reducible apply go_nil))
           | ((with_reducible (show evG _ _ _ _ _)); first
             | (with_reducible apply go_seq)
             | (with_reducible apply go_region)
             | (with_reducible apply go_block))
           | (with_reducible apply go_kseq)
  all_goals try (exfalso; omega)
  refine go_count 2 (fun i => ⟨[(7, .int .i64 i), (3, .op 0 0 0), (0, .sl (l.map encPt))], [(0, ⟨6, true, [encT3 (rotT a b c i).1 (rotT a b c i).2.1 (rotT a b c i).2.2]⟩)], 32, 59⟩) (fun i => True)
    (entails_eq (nx := 32) (k := 0) (ns := []) (ks := [7, 3, 0]) [(0, 0)] rfl (by simp) (by kernel_rfl)) trivial ?_
  intro i hi _
  by_cases hlt : i < 2
  · have hst : rotT a b c (i + 1) = rot3 (rotT a b c i) := rfl
    have hmi := hm i
    generalize rotT a b c (i + 1) = r2 at *
    generalize rotT a b c i = r at *
    obtain ⟨x, y, z⟩ := r
    have k1 := c_ahead y x
    have k2 := c_ahead z x
    have s1 := ahead_neg (hok _ hmi.2.1) (hok _ hmi.1)
    have s2 := ahead_neg (hok _ hmi.2.2) (hok _ hmi.1)
    simp only at k1 k2 s1 s2 ⊢
    unfold rot3 at hst
    simp only [← s1, ← s2] at hst
    generalize aheadE y x = u at *
    generalize aheadE z x = v at *
    repeat' first
           | (with_reducible apply go_op)
           | (with_reducible apply go_next)
           | ((with_reducible (show evOp _ _ _ _ _ _)); first
             | ((with_reducible (show evOp _ (.move _) _ _ _ _)) ; first | ((with_reducible apply go_mv_int); rfl; rfl) | ((with_reducible apply go_mv_bool); rfl; rfl) | ((with_reducible apply go_mv_sl); rfl; rfl))
             | (((with_reducible apply go_load_own); rfl; rfl; rfl; rfl))
             | (((with_reducible apply go_index_arr); rfl; rfl; rfl; rfl; omega))
             | ((with_reducible (show evOp _ (.binOp _ _ _ _ _) _ _ _ _)) ; first | ((with_reducible apply go_cmp); rfl; rfl; rfl; rfl) | ((with_reducible apply go_add); rfl; rfl; rfl; omega))
             | ((with_reducible (show evOp _ (.call _) _ _ _ _)) ; first | ((with_reducible apply go_len); rfl; rfl) | ((with_reducible apply go_fn_int); rfl; (exact k1); rfl) | ((with_reducible apply go_fn_int); rfl; (exact k2); rfl))
             | (((with_reducible apply go_st_agg); rfl; rfl; rfl; rfl; rfl; rfl; rfl))
             | (((with_reducible apply go_pick); rfl; rfl; rfl))
             | (((with_reducible apply go_build); rfl; rfl)))
           | ((with_reducible (show evOps _ _ _ _ _ _)); first
             | (with_reducible apply go_nil)
             | ((with_reducible apply go_run); rfl; rfl)
             | ((with_reducible apply go_pass); rfl; rfl; rfl)
             | (((with_reducible apply go_guard); rfl) <;> (intro h; simp only [h, Bool.not_true, Bool.not_false]; (try with_reducible (refine ⟨rfl, ?_⟩)); try simp only [decide_eq_true_eq, decide_eq_false_iff_not, Bool.not_eq_true', Bool.not_eq_false', Bool.not_true, Bool.not_false] at h; try exact absurd trivial h)))
           | ((with_reducible (show evG _ _ _ _ _)); first
             | (with_reducible apply go_seq)
             | (with_reducible apply go_region)
             | ((with_reducible apply go_cond_t); rfl; rfl)
             | (((with_reducible apply go_cond); rfl) <;> (intro h; simp only [h]; try simp only [decide_eq_true_eq, decide_eq_false_iff_not, Bool.not_eq_true', Bool.not_eq_false', Bool.not_true, Bool.not_false] at h; try exact absurd trivial h))
             | (with_reducible apply go_skipc)
             | (with_reducible apply go_block)
             | (with_reducible apply go_exit))
           | (with_reducible apply go_kseq)
           | (with_reducible apply go_kblock)
           | (with_reducible apply go_kblock_exit)
           | (with_reducible apply go_kseq_exit)
    all_goals try (exfalso; omega)
    all_goals first
      | (refine ⟨hlt, trivial, ?_⟩
         rw [hst, if_pos (by omega)]
         exact entails_eq (nx := 32) (k := 0) (ns := []) (ks := [7, 3, 0]) [(0, 0)] rfl (by simp) (by kernel_rfl))
      | (refine ⟨hlt, trivial, ?_⟩
         rw [hst, if_neg (by omega)]
         exact entails_eq (nx := 32) (k := 0) (ns := []) (ks := [7, 3, 0]) [(0, 0)] rfl (by simp) (by kernel_rfl))
  · have e : i = 2 := by omega
    subst e
    have hmi := hm 2
    generalize rotT a b c 2 = r at *
    obtain ⟨x, y, z⟩ := r
    simp only at hmi ⊢
    repeat' first
           | (with_reducible apply go_op)
           | (with_reducible apply go_next)
           | ((with_reducible (show evOp _ _ _ _ _ _)); first
             | ((with_reducible (show evOp _ (.move _) _ _ _ _)) ; first | ((with_reducible apply go_mv_int); rfl; rfl) | ((with_reducible apply go_mv_sl); rfl; rfl))
             | (((with_reducible apply go_cmp); rfl; rfl; rfl; rfl))
             | (((with_reducible apply go_len); rfl; rfl)))
           | ((with_reducible (show evOps _ _ _ _ _ _)); first
             | (with_reducible apply go_nil))
           | ((with_reducible (show evG _ _ _ _ _)); first
             | (with_reducible apply go_seq)
             | (with_reducible apply go_region)
             | ((with_reducible apply go_cond_f); rfl; rfl)
             | (with_reducible apply go_block)
             | (with_reducible apply go_exit))
           | (with_reducible apply go_kseq)
           | (with_reducible apply go_kblock_exit)
           | (with_reducible apply go_kseq_exit)
    all_goals try (exfalso; omega)
    refine go_count l.length (fun i => ⟨[(33, .int .i64 i), (32, .int .i64 l.length), (31, .sl (l.map encPt)), (3, .op 0 0 0), (0, .sl (l.map encPt))], [(0, ⟨6, true, [encT3 x y z]⟩)], 32, 59⟩) (fun i => ∀ j (hj : j < l.length), j < i → badP x y z l[j] = false)
      (entails_eq (nx := 32) (k := 0) (ns := []) (ks := [33, 32, 31, 3, 0]) [(0, 0)] rfl (by simp) (by kernel_rfl)) (fun j hj h => absurd h (Nat.not_lt_zero _)) ?_
    intro j hj hC
    by_cases hlj : j < l.length
    · have hp : l[j] ∈ l := List.getElem_mem hlj
      have hop := hok _ hp
      have k1 := c_circle x y z l[j] (hok _ hmi.1) (hok _ hmi.2.1) (hok _ hmi.2.2) hop (near_l hf hmi.1 hp) (near_l hf hmi.2.1 hp) (near_l hf hmi.2.2 hp)
      have k2 := c_ahead l[j] x
      have k3 := c_cross y z l[j] (hok _ hmi.2.1) (hok _ hmi.2.2) hop
      have s2 := ahead_neg hop (hok _ hmi.1)
      have hno : badP x y z l[j] = true → belL l x y z = false := bel_no hp
      have hbd : badP x y z l[j] = (decide (signE (detE x y z l[j]) = 1) || (decide (signE (detE x y z l[j]) = 0) && (decide (aheadE l[j] x < 0) || decide (crossE y z l[j] < 0)))) := by
        unfold badP
        simp only [show (0 < detE x y z l[j]) = (signE (detE x y z l[j]) = 1) from propext (by unfold signE; (repeat' split) <;> omega), show (detE x y z l[j] = 0) = (signE (detE x y z l[j]) = 0) from propext (by unfold signE; (repeat' split) <;> omega), show (key l[j] < key x) = (aheadE l[j] x < 0) from propext s2.symm]
      clear s2
      generalize signE (detE x y z l[j]) = u at *
      generalize aheadE l[j] x = v at *
      generalize crossE y z l[j] = w at *
      repeat' first
           | (with_reducible apply go_op)
           | (with_reducible apply go_next)
           | ((with_reducible (show evOp _ _ _ _ _ _)); first
             | ((with_reducible (show evOp _ (.move _) _ _ _ _)) ; first | ((with_reducible apply go_mv_int); rfl; rfl) | ((with_reducible apply go_mv_bool); rfl; rfl))
             | ((with_reducible apply go_as))
             | ((with_reducible (show evOp _ (.load _ _) _ _ _ _)) ; first | ((with_reducible apply go_ld_ptr); rfl; rfl; rfl) | ((with_reducible apply go_ld_agg); rfl; rfl; rfl; rfl) | ((with_reducible apply go_load_own); rfl; rfl; rfl; rfl))
             | ((with_reducible (show evOp _ (.indexAddr _ _ _) _ _ _ _)) ; first | ((with_reducible apply go_index_arr); rfl; rfl; rfl; rfl; omega) | ((with_reducible apply go_index_nat); rfl; rfl; (with_reducible rfl); (intro; rfl); rfl; omega; (intro hlt)))
             | ((with_reducible (show evOp _ (.binOp _ _ _ _ _) _ _ _ _)) ; first | ((with_reducible apply go_cmp); rfl; rfl; rfl; rfl) | ((with_reducible apply go_add); rfl; rfl; rfl; omega))
             | ((with_reducible (show evOp _ (.call _) _ _ _ _)) ; first | ((with_reducible apply go_fn_int); rfl; (exact k1); rfl) | ((with_reducible apply go_fn_int); rfl; (exact k2); rfl) | ((with_reducible apply go_fn_int); rfl; (exact k3); rfl))
             | (((with_reducible apply go_st_agg); rfl; rfl; rfl; rfl; rfl; rfl; rfl))
             | (((with_reducible apply go_pick); rfl; rfl; rfl))
             | (((with_reducible apply go_alloc); rfl; rfl; rfl)))
           | ((with_reducible (show evOps _ _ _ _ _ _)); first
             | (with_reducible apply go_nil)
             | ((with_reducible apply go_run); rfl; rfl)
             | ((with_reducible apply go_pass); rfl; rfl; rfl)
             | (((with_reducible apply go_guard); rfl) <;> (intro h; simp only [h, Bool.not_true, Bool.not_false]; (try with_reducible (refine ⟨rfl, ?_⟩)); try simp only [decide_eq_true_eq, decide_eq_false_iff_not, Bool.not_eq_true', Bool.not_eq_false', Bool.not_true, Bool.not_false] at h; try exact absurd trivial h)))
           | ((with_reducible (show evG _ _ _ _ _)); first
             | (with_reducible apply go_seq)
             | (with_reducible apply go_region)
             | ((with_reducible apply go_cond_t); rfl; rfl)
             | (((with_reducible apply go_cond); rfl) <;> (intro h; simp only [h]; try simp only [decide_eq_true_eq, decide_eq_false_iff_not, Bool.not_eq_true', Bool.not_eq_false', Bool.not_true, Bool.not_false] at h; try exact absurd trivial h))
             | (with_reducible apply go_ret)
             | (with_reducible apply go_skipc)
             | (with_reducible apply go_block)
             | (with_reducible apply go_exit))
           | (with_reducible apply go_kseq)
           | (with_reducible apply go_kseq_ret)
           | (with_reducible apply go_kblock)
           | (with_reducible apply go_kblock_ret)
           | (with_reducible apply go_kblock_exit)
           | (with_reducible apply go_kseq_exit)
           | ((with_reducible apply end_bool); rfl)
      all_goals try (exfalso; omega)
      all_goals first
        | exact (hno (by rw [hbd]; simp [*])).symm
        | (refine ⟨hlj, fun k hk hkj => ?_, entails_eq (nx := 32) (k := 0) (ns := []) (ks := [33, 32, 31, 3, 0]) [(0, 0)] rfl (by simp) (by kernel_rfl)⟩
           rcases Nat.lt_succ_iff_lt_or_eq.1 hkj with h' | rfl
           · exact hC k hk h'
           · rw [hbd]; simp [*])
    · have hy : belL l x y z = true := bel_yes fun k hk => hC k hk (by omega)
      rw [hy]
      repeat' first
           | (with_reducible apply go_op)
           | (with_reducible apply go_next)
           | ((with_reducible (show evOp _ _ _ _ _ _)); first
             | (((with_reducible apply go_mv_bool); rfl; rfl))
             | ((with_reducible apply go_as))
             | ((with_reducible (show evOp _ (.load _ _) _ _ _ _)) ; first | ((with_reducible apply go_ld_ptr); rfl; rfl; rfl) | ((with_reducible apply go_ld_agg); rfl; rfl; rfl; rfl))
             | (((with_reducible apply go_index_nat); rfl; rfl; (with_reducible rfl); (intro; rfl); rfl; omega; (intro hlt)))
             | (((with_reducible apply go_cmp); rfl; rfl; rfl; rfl))
             | (((with_reducible apply go_st_agg); rfl; rfl; rfl; rfl; rfl; rfl; rfl))
             | (((with_reducible apply go_alloc); rfl; rfl; rfl)))
           | ((with_reducible (show evOps _ _ _ _ _ _)); first
             | (with_reducible apply go_nil))
           | ((with_reducible (show evG _ _ _ _ _)); first
             | (with_reducible apply go_seq)
             | (with_reducible apply go_region)
             | (((with_reducible apply go_cond); rfl) <;> (intro h; simp only [h]; try simp only [decide_eq_true_eq, decide_eq_false_iff_not, Bool.not_eq_true', Bool.not_eq_false', Bool.not_true, Bool.not_false] at h; try exact absurd trivial h))
             | (with_reducible apply go_ret)
             | (with_reducible apply go_skipc)
             | (with_reducible apply go_block)
             | (with_reducible apply go_exit))
           | (with_reducible apply go_kseq)
           | (with_reducible apply go_kblock_exit)
           | (with_reducible apply go_kseq_exit)
           | ((with_reducible apply end_bool); rfl)
           | (with_reducible rfl)
      all_goals first
        | (exfalso; omega)
        | rfl
        | trace_state
end Go.Pv.Geo

open Go Go.Proofs Go.Shelf
set_option maxRecDepth 100000
namespace Go.Pv.Geo
def sortTri_ren : Go.Shelf.Ren := ⟨fun | 6 => 114 | 15 => 126 | 14 => 128 | 28 => 138 | 29 => 139 | 20 => 140 | 21 => 141 | 22 => 142 | 23 => 143 | 24 => 144 | 25 => 145 | 26 => 146 | 27 => 147 | 46 => 153 | 47 => 149 | 48 => 150 | 49 => 154 | 50 => 155 | 57 => 157 | n => n, fun | 22 => 41 | 24 => 47 | 25 => 117 | 3 => 3 | 39 => 123 | 0 => 0 | 53 => 135 | 55 => 137 | 4 => 4 | 46 => 128 | 45 => 127 | 50 => 132 | 5 => 5 | 9 => 9 | 66 => 143 | 70 => 147 | 76 => 151 | 77 => 55 | n => n, fun | n => n⟩
theorem sortTri : SlLaysF0.n6 Try.prog sortTri_ren := {
  mixed := by kernel_rfl,
  f6 := ⟨Try.f114.name, by decide, Try.func114.trans (congrArg some (by kernel_rfl))⟩,
  f14 := ⟨Try.f128.name, by decide, Try.func128.trans (congrArg some (by kernel_rfl))⟩,
  f15 := Try.func126.trans (congrArg some (by kernel_rfl)),
  f20 := ⟨Try.f140.name, by decide, Try.func140.trans (congrArg some (by kernel_rfl))⟩,
  f21 := ⟨Try.f141.name, by decide, Try.func141.trans (congrArg some (by kernel_rfl))⟩,
  f22 := ⟨Try.f142.name, by decide, Try.func142.trans (congrArg some (by kernel_rfl))⟩,
  f23 := ⟨Try.f143.name, by decide, Try.func143.trans (congrArg some (by kernel_rfl))⟩,
  f24 := ⟨Try.f144.name, by decide, Try.func144.trans (congrArg some (by kernel_rfl))⟩,
  f25 := ⟨Try.f145.name, by decide, Try.func145.trans (congrArg some (by kernel_rfl))⟩,
  f26 := ⟨Try.f146.name, by decide, Try.func146.trans (congrArg some (by kernel_rfl))⟩,
  f27 := ⟨Try.f147.name, by decide, Try.func147.trans (congrArg some (by kernel_rfl))⟩,
  f28 := Try.func138.trans (congrArg some (by kernel_rfl)),
  f29 := Try.func139.trans (congrArg some (by kernel_rfl)),
  f46 := ⟨Try.f153.name, by decide, Try.func153.trans (congrArg some (by kernel_rfl))⟩,
  f47 := Try.func149.trans (congrArg some (by kernel_rfl)),
  f48 := Try.func150.trans (congrArg some (by kernel_rfl)),
  f49 := ⟨Try.f154.name, by decide, Try.func154.trans (congrArg some (by kernel_rfl))⟩,
  f50 := ⟨Try.f155.name, by decide, Try.func155.trans (congrArg some (by kernel_rfl))⟩,
  f57 := ⟨Try.f157.name, by decide, Try.func157.trans (congrArg some (by kernel_rfl))⟩,
  t0 := Try.underlying0,
  a0 := Try.isAgg0,
  z0 := Try.sizeOf0,
  v0 := Try.zeroValue0,
  t3 := Try.underlying3,
  a3 := Try.isAgg3,
  z3 := Try.sizeOf3,
  v3 := Try.zeroValue3,
  t4 := Try.underlying4,
  a4 := Try.isAgg4,
  z4 := Try.sizeOf4,
  v4 := Try.zeroValue4,
  t5 := Try.underlying5,
  a5 := Try.isAgg5,
  z5 := Try.sizeOf5,
  v5 := Try.zeroValue5,
  t9 := Try.underlying9,
  a9 := Try.isAgg9,
  z9 := Try.sizeOf9,
  v9 := Try.zeroValue9,
  t22 := Try.underlying41,
  a22 := Try.isAgg41,
  z22 := Try.sizeOf41,
  v22 := Try.zeroValue41,
  t25 := Try.underlying117,
  a25 := Try.isAgg117,
  z25 := Try.sizeOf117,
  v25 := Try.zeroValue117,
  t39 := Try.underlying123,
  a39 := Try.isAgg123,
  z39 := Try.sizeOf123,
  v39 := Try.zeroValue123,
  t45 := Try.underlying127,
  a45 := Try.isAgg127,
  z45 := Try.sizeOf127,
  v45 := Try.zeroValue127,
  t46 := Try.underlying128,
  a46 := Try.isAgg128,
  z46 := Try.sizeOf128,
  v46 := Try.zeroValue128,
  t50 := Try.underlying132,
  a50 := Try.isAgg132,
  z50 := Try.sizeOf132,
  v50 := Try.zeroValue132,
  t53 := Try.underlying135,
  a53 := Try.isAgg135,
  z53 := Try.sizeOf135,
  v53 := Try.zeroValue135,
  t55 := Try.underlying137,
  a55 := Try.isAgg137,
  z55 := Try.sizeOf137,
  v55 := Try.zeroValue137,
  t66 := Try.underlying143,
  a66 := Try.isAgg143,
  z66 := Try.sizeOf143,
  v66 := Try.zeroValue143,
  t70 := Try.underlying147,
  a70 := Try.isAgg147,
  z70 := Try.sizeOf147,
  v70 := Try.zeroValue147,
  t76 := Try.underlying151,
  a76 := Try.isAgg151,
  z76 := Try.sizeOf151,
  v76 := Try.zeroValue151,
  t77 := Try.underlying55,
  a77 := Try.isAgg55,
  z77 := Try.sizeOf55,
  v77 := Try.zeroValue55 }
end Go.Pv.Geo

open Go Go.Proofs Go.Pv
set_option maxHeartbeats 8000000
set_option maxRecDepth 100000
set_option linter.unusedSimpArgs false
set_option linter.unusedVariables false
namespace Go.Pv.Geo
def cmpB (x y : BT) : Int := orE [x.1.a - y.1.a, x.1.b - y.1.b, x.1.c - y.1.c]
theorem or3 (a b c : Int) : orE [a, b, c] = if a ≠ 0 then a else if b ≠ 0 then b else c := by
  unfold orE
  by_cases ha : a = 0 <;> by_cases hb : b = 0 <;> by_cases hc : c = 0 <;> simp [ha, hb, hc, List.find?]
instance (x y : BT) : Decidable (ltB x y) := by unfold ltB; infer_instance
theorem cmpB_lt (x y : BT) : ltOf cmpB x y = decide (ltB x y) := by
  unfold ltOf cmpB ltB
  rw [or3]
  refine decide_eq_decide.2 ?_
  (repeat' split) <;> omega
theorem cmpB_swo : Go.Sort.SWO (ltOf cmpB) where
  irrefl x := by rw [cmpB_lt]; simp [ltB]
  trans x y z h1 h2 := by rw [cmpB_lt, decide_eq_true_eq] at *; unfold ltB at *; omega
  ntrans x y z h1 h2 := by rw [cmpB_lt, decide_eq_false_iff_not] at *; unfold ltB at *; omega
theorem cmpB_tot (x y : BT) (h1 : ltOf cmpB x y = false) (h2 : ltOf cmpB y x = false) : x = y := by
  rw [cmpB_lt, decide_eq_false_iff_not] at *
  unfold ltB at *
  exact BT.ext (by omega) (by omega) (by omega)
theorem sort_ref {l : List Pt} (hl : l.length ≤ 64) : sortBy cmpB (progL l l.length) = refL l l.length := by
  have hs : (sortBy cmpB (progL l l.length)).Pairwise fun x y => (!(ltOf cmpB) y x) = true := by
    unfold sortBy
    refine List.pairwise_mergeSort ?_ ?_ _
    · intro a b c h1 h2
      rw [Bool.not_eq_true'] at *
      exact cmpB_swo.ntrans c b a h2 h1
    · intro a b
      cases h : ltOf cmpB b a with
      | false => rfl
      | true =>
        cases h' : ltOf cmpB a b with
        | false => rfl
        | true => have := cmpB_swo.trans a b a h' h; rw [cmpB_swo.irrefl] at this; cases this
  have hr : (refL l l.length).Pairwise fun x y => (!(ltOf cmpB) y x) = true := (ref_sorted hl).imp fun {x y} h => by
    rw [Bool.not_eq_true', cmpB_lt, decide_eq_false_iff_not]; unfold ltB at *; omega
  have hnr : (refL l l.length).Nodup := (ref_sorted hl).imp fun {x y} h e => by subst e; unfold ltB at h; omega
  refine List.Perm.eq_of_pairwise (fun x y _ _ h1 h2 => ?_) hs hr ((List.mergeSort_perm _ _).trans ((List.perm_ext_iff_of_nodup (prog_nodup hl) hnr).2 fun x => prog_mem.trans ref_mem.symm))
  rw [Bool.not_eq_true'] at h1 h2
  exact cmpB_tot x y h2 h1
def encB (t : BT) : List D := encTri t.1
theorem c_cmpB (x y : BT) : Contract Try.prog 115 [.agg (encB x), .agg (encB y)] (.ret (.int .i64 (cmpB x y))) := by
  have h := x.2
  have h' := y.2
  have k := c_Or3 (x.1.a - y.1.a) (x.1.b - y.1.b) (x.1.c - y.1.c)
  show Contract _ _ [.agg (encTri x.1), .agg (encTri y.1)] (.ret (.int .i64 (orE [x.1.a - y.1.a, x.1.b - y.1.b, x.1.c - y.1.c])))
  generalize x.1 = t at *
  generalize y.1 = u at *
  refine contract_of mix Try.func115 rfl rfl (by rw [Try.ntmps115]; exact Nat.le_of_ble_eq_true rfl) ?_; rw [Try.results115, Try.ntmps115]; simp only [argsE, Nat.reduceAdd]
  repeat' first
           | ((with_reducible apply go_bs3_int); rfl; rfl; rfl; rfl; rfl)
           | (with_reducible apply go_op)
           | (with_reducible apply go_next)
           | ((with_reducible (show evOp _ _ _ _ _ _)); first
             | (((with_reducible apply go_mv_int); rfl; rfl))
             | ((with_reducible apply go_as))
             | (((with_reducible apply go_load_own); rfl; rfl; rfl; rfl))
             | (((with_reducible apply go_fieldAddr_own); rfl; rfl; rfl))
             | (((with_reducible apply go_sub); rfl; rfl; rfl; omega))
             | (((with_reducible apply go_fn_int); (exact purL_os rfl (by simp) rfl); (exact k); rfl))
             | (((with_reducible apply go_bx_agg); rfl; rfl; (exact Nat.le_of_ble_eq_true rfl); rfl; rfl)))
           | ((with_reducible (show evOps _ _ _ _ _ _)); first
             | (with_reducible apply go_nil))
           | ((with_reducible (show evG _ _ _ _ _)); first
             | (with_reducible apply go_seq)
             | (with_reducible apply go_region)
             | (with_reducible apply go_ret))
           | (with_reducible apply go_kseq)
           | ((with_reducible apply end_int); rfl)
           | (with_reducible rfl)
theorem c_SortTri (l : List BT) (hl : l.length < 4611686018427387904) : ContractM Try.prog 114 [.os 0 0 l.length, .clo (.func 115) [] []] ⟨3, true, l.map encB⟩ (.tup []) ⟨3, true, (sortBy cmpB l).map encB⟩ :=
  contractM_sort sortTri 3 (by decide) Try.isAgg47 Try.sizeOf47 (fun t : BT => [t.1.a, t.1.b, t.1.c]) (fun _ => rfl) cmpB cmpB_swo cmpB_tot 115 (enters_of Try.func115 (by kernel_rfl) rfl)
    (fun x y => c_cmpB x y) ⟨_, Try.func114, by kernel_rfl, by kernel_rfl⟩ l hl
end Go.Pv.Geo

open Go Go.Proofs Go.Pv
set_option maxHeartbeats 8000000
set_option maxRecDepth 100000
set_option linter.unusedSimpArgs false
set_option linter.unusedVariables false
namespace Go.Pv.Geo
theorem scalB : ScalF encB 3 := fun _ => ⟨rfl, rfl⟩
theorem mkB_eq {a b c : Nat} (h : a < 100 ∧ b < 100 ∧ c < 100) : mkB a b c = ⟨⟨a, b, c⟩, by simp only; omega⟩ := by rw [mkB, dif_pos h]
theorem progB_step (l : List Pt) (a b q : Nat) (X : List BT) : X ++ progB l a b (q + 1) = (X ++ progB l a b q) ++ T3 l a b (b + 1 + q) := by rw [List.append_assoc]; rfl
theorem progA_step (l : List Pt) (a m : Nat) (X : List BT) : X ++ progA l a (m + 1) = (X ++ progA l a m) ++ progB l a (a + 1 + m) (l.length - (a + 1 + m + 1)) := by rw [List.append_assoc]; rfl
theorem progL_step (l : List Pt) (a : Nat) : progL l (a + 1) = progL l a ++ progA l a (l.length - (a + 1)) := rfl
theorem belT_get {l : List Pt} {a b c : Nat} (ha : a < l.length) (hb : b < l.length) (hc : c < l.length) : belT l a b c = belL l (rotT l[a] l[b] l[c] 2).1 (rotT l[a] l[b] l[c] 2).2.1 (rotT l[a] l[b] l[c] 2).2.2 := by
  unfold belT; rw [ptL_get ha, ptL_get hb, ptL_get hc]
theorem crT_get {l : List Pt} {a b c : Nat} (ha : a < l.length) (hb : b < l.length) (hc : c < l.length) : crT l a b c = crossE l[a] l[b] l[c] := by
  unfold crT; rw [ptL_get ha, ptL_get hb, ptL_get hc]
theorem c_triangulate (l : List Pt) (hl : l.length ≤ 9) (hok : ∀ p ∈ l, ptOK p = true) (hf : farL l = false) : Contract Try.prog 81 [.sl (l.map encPt)] (.ret (.fr 3 ((refL l l.length).map encB))) := by
  have hy : ContractM Try.prog 114 [.os 0 0 (progL l l.length).length, .clo (.func 115) [] []] ⟨3, true, (progL l l.length).map encB⟩ (.tup []) ⟨3, true, (refL l l.length).map encB⟩ := by
    rw [← sort_ref (by omega)]
    have hlen : (progL l l.length).length ≤ 1000 := by
      have := accF_len (f := fun a => progA l a (l.length - (a + 1))) (B := 81) (fun a => ?_) l.length
      · have h2 := Nat.mul_le_mul_right 81 hl
        unfold progL; omega
      · have := accF_len (f := fun m => progB l a (a + 1 + m) (l.length - (a + 1 + m + 1))) (B := 9) (fun m => ?_) (l.length - (a + 1))
        · show (accF _ _).length ≤ 81
          have : l.length - (a + 1) ≤ 9 := by omega
          have h2 := Nat.mul_le_mul_right 9 this
          omega
        · have := accF_len (f := fun q => T3 l a (a + 1 + m) (a + 1 + m + 1 + q)) (B := 1) (fun q => T3_len _ _ _ _) (l.length - (a + 1 + m + 1))
          show (accF _ _).length ≤ 9
          omega
    exact c_SortTri _ (by omega)
  have hRL : (refL l l.length).length = (progL l l.length).length := by
    rw [← sort_ref (by omega)]; exact List.length_mergeSort _
  refine contract_of mix Try.func81 rfl rfl (by rw [Try.ntmps81]; exact Nat.le_of_ble_eq_true rfl) ?_; rw [Try.results81, Try.ntmps81]; simp only [argsE, Nat.reduceAdd]
  repeat' first
           | (with_reducible apply go_op)
           | (with_reducible apply go_next)
           | ((with_reducible (show evOp _ _ _ _ _ _)); first
             | ((with_reducible (show evOp _ (.move _) _ _ _ _)) ; first | ((with_reducible apply go_mv_int); rfl; rfl) | ((with_reducible apply go_mv_sl); rfl; rfl) | ((with_reducible apply go_mv_nilsl); rfl; rfl))
             | ((with_reducible apply go_as))
             | (((with_reducible apply go_len); rfl; rfl)))
           | ((with_reducible (show evOps _ _ _ _ _ _)); first
             | (with_reducible apply go_nil))
           | ((with_reducible (show evG _ _ _ _ _)); first
             | (with_reducible apply go_seq)
             | (with_reducible apply go_region)
             | (with_reducible apply go_block))
           | (with_reducible apply go_kseq)
  all_goals try (exfalso; omega)
  refine go_count l.length (fun a => ⟨[(3, .os 1 0 (progL l a).length), (11, .int .i64 a), (10, .int .i64 l.length), (0, .sl (l.map encPt))], [(1, ⟨3, true, (progL l a).map encB⟩)], 32, 83⟩) (fun a => (progL l a).length ≤ a * 81)
    (entails_eq (nx := 32) (k := 3) (ns := [(3, 1)]) (ks := [11, 10, 0]) [] rfl (by intro p hp; obtain rfl : p = (3, 1) := (by simpa using hp); kernel_rfl) (by kernel_rfl)) (by simp [progL, accF]) ?_
  intro a ha hCa
  by_cases hla : a < l.length
  rotate_left
  · have e : a = l.length := by omega
    subst e
    generalize progL l l.length = L at *
    generalize refL l l.length = R at *
    repeat' first
           | ((with_reducible (show evG _ _ (.region 18 _ _) _ _)); (with_reducible apply go_regionM))
           | ((with_reducible apply (goM_call (b := 1))); rfl; rfl; (exact scalR_map scalB _); rfl; rfl; (exact hy); rfl; rfl)
           | (with_reducible apply goM_op)
           | (with_reducible apply goM_next)
           | (with_reducible apply goM_nil)
           | (with_reducible apply go_op)
           | (with_reducible apply go_next)
           | ((with_reducible (show evOp _ _ _ _ _ _)); first
             | ((with_reducible (show evOp _ (.move _) _ _ _ _)) ; first | ((with_reducible apply go_mv_int); rfl; rfl) | ((with_reducible apply go_mv_os); rfl; rfl))
             | ((with_reducible apply go_as))
             | ((with_reducible (show evOp _ (.binOp _ _ _ _ _) _ _ _ _)) ; first | ((with_reducible apply go_cmp); rfl; rfl; rfl; rfl) | ((with_reducible apply go_add); rfl; rfl; rfl; omega)))
           | ((with_reducible (show evOps _ _ _ _ _ _)); first
             | (with_reducible apply go_nil))
           | ((with_reducible (show evG _ _ _ _ _)); first
             | (with_reducible apply go_seq)
             | (with_reducible apply go_region)
             | (((with_reducible apply go_cond); rfl) <;> (intro h; simp only [h]; try simp only [decide_eq_true_eq, decide_eq_false_iff_not, Bool.not_eq_true', Bool.not_eq_false', Bool.not_true, Bool.not_false] at h; try exact absurd trivial h))
             | (with_reducible apply go_ret)
             | (with_reducible apply go_skipc)
             | (with_reducible apply go_block)
             | (with_reducible apply go_exit))
           | (with_reducible apply go_kseq)
           | (with_reducible apply go_kblock_exit)
           | (with_reducible apply go_kseq_exit)
    all_goals try (exfalso; omega)
    exact end_frn (l := R) rfl rfl hRL rfl
  have h9a : a * 81 ≤ 9 * 81 := Nat.mul_le_mul_right _ (by omega)
  rw [progL_step]
  clear hy hRL
  generalize progL l a = X at *
  repeat' first
           | (with_reducible apply go_op)
           | (with_reducible apply go_next)
           | ((with_reducible (show evOp _ _ _ _ _ _)); first
             | ((with_reducible (show evOp _ (.move _) _ _ _ _)) ; first | ((with_reducible apply go_mv_int); rfl; rfl) | ((with_reducible apply go_mv_os); rfl; rfl))
             | ((with_reducible apply go_as))
             | ((with_reducible (show evOp _ (.binOp _ _ _ _ _) _ _ _ _)) ; first | ((with_reducible apply go_cmp); rfl; rfl; rfl; rfl) | ((with_reducible apply go_add); rfl; rfl; rfl; omega)))
           | ((with_reducible (show evOps _ _ _ _ _ _)); first
             | (with_reducible apply go_nil))
           | ((with_reducible (show evG _ _ _ _ _)); first
             | (with_reducible apply go_seq)
             | (with_reducible apply go_region)
             | (((with_reducible apply go_cond); rfl) <;> (intro h; simp only [h]; try simp only [decide_eq_true_eq, decide_eq_false_iff_not, Bool.not_eq_true', Bool.not_eq_false', Bool.not_true, Bool.not_false] at h; try exact absurd trivial h))
             | (with_reducible apply go_skipc)
             | (with_reducible apply go_block)
             | (with_reducible apply go_exit))
           | (with_reducible apply go_kseq)
           | (with_reducible apply go_kblock_exit)
           | (with_reducible apply go_kseq_exit)
  all_goals try (exfalso; omega)
  refine go_count (l.length - (a + 1)) (fun m => ⟨[(3, .os 1 0 (X ++ progA l a m).length), (5, .int .i64 ((a + 1 + m : Nat) : Int)), (4, .int .i64 a), (11, .int .i64 a), (10, .int .i64 l.length), (0, .sl (l.map encPt))], [(1, ⟨3, true, (X ++ progA l a m).map encB⟩)], 32, 83⟩) (fun m => (X ++ progA l a m).length ≤ a * 81 + m * 9)
    (entails_eq (nx := 32) (k := 0) (ns := []) (ks := [3, 5, 4, 11, 10, 0]) [(1, 1)] rfl (by simp) (by rw [show X ++ progA l a 0 = X from List.append_nil _]; kernel_rfl)) (by rw [show X ++ progA l a 0 = X from List.append_nil _]; omega) ?_
  intro m hm hCm
  by_cases hlm : m < l.length - (a + 1)
  rotate_left
  · have e : m = l.length - (a + 1) := by omega
    rw [← e]
    generalize X ++ progA l a m = Y at *
    repeat' first
           | (with_reducible apply go_op)
           | (with_reducible apply go_next)
           | ((with_reducible (show evOp _ _ _ _ _ _)); first
             | ((with_reducible (show evOp _ (.move _) _ _ _ _)) ; first | ((with_reducible apply go_mv_int); rfl; rfl) | ((with_reducible apply go_mv_sl); rfl; rfl))
             | ((with_reducible apply go_as))
             | ((with_reducible (show evOp _ (.binOp _ _ _ _ _) _ _ _ _)) ; first | ((with_reducible apply go_cmp); rfl; rfl; rfl; rfl) | ((with_reducible apply go_add); rfl; rfl; rfl; omega))
             | (((with_reducible apply go_len); rfl; rfl)))
           | ((with_reducible (show evOps _ _ _ _ _ _)); first
             | (with_reducible apply go_nil))
           | ((with_reducible (show evG _ _ _ _ _)); first
             | (with_reducible apply go_seq)
             | (with_reducible apply go_region)
             | (((with_reducible apply go_cond); rfl) <;> (intro h; simp only [h]; try simp only [decide_eq_true_eq, decide_eq_false_iff_not, Bool.not_eq_true', Bool.not_eq_false', Bool.not_true, Bool.not_false] at h; try exact absurd trivial h))
             | (with_reducible apply go_skipc)
             | (with_reducible apply go_block)
             | (with_reducible apply go_exit))
           | (with_reducible apply go_kseq)
           | (with_reducible apply go_kblock)
           | (with_reducible apply go_kblock_exit)
           | (with_reducible apply go_kseq_exit)
    all_goals try (exfalso; omega)
    exact ⟨by omega, by omega, entails_eq (nx := 32) (k := 0) (ns := []) (ks := [3, 11, 10, 0]) [(1, 1)] rfl (by simp) (by kernel_rfl)⟩
  rw [progA_step]
  generalize X ++ progA l a m = Y at *
  clear hCa
  obtain ⟨b, hb⟩ : ∃ b, b = a + 1 + m := ⟨_, rfl⟩
  rw [← hb]
  have hbl : b < l.length := by omega
  repeat' first
           | (with_reducible apply go_op)
           | (with_reducible apply go_next)
           | ((with_reducible (show evOp _ _ _ _ _ _)); first
             | ((with_reducible (show evOp _ (.move _) _ _ _ _)) ; first | ((with_reducible apply go_mv_int); rfl; rfl) | ((with_reducible apply go_mv_sl); rfl; rfl))
             | ((with_reducible apply go_as))
             | ((with_reducible (show evOp _ (.binOp _ _ _ _ _) _ _ _ _)) ; first | ((with_reducible apply go_cmp); rfl; rfl; rfl; rfl) | ((with_reducible apply go_add); rfl; rfl; rfl; omega))
             | (((with_reducible apply go_len); rfl; rfl)))
           | ((with_reducible (show evOps _ _ _ _ _ _)); first
             | (with_reducible apply go_nil))
           | ((with_reducible (show evG _ _ _ _ _)); first
             | (with_reducible apply go_seq)
             | (with_reducible apply go_region)
             | (((with_reducible apply go_cond); rfl) <;> (intro h; simp only [h]; try simp only [decide_eq_true_eq, decide_eq_false_iff_not, Bool.not_eq_true', Bool.not_eq_false', Bool.not_true, Bool.not_false] at h; try exact absurd trivial h))
             | (with_reducible apply go_skipc)
             | (with_reducible apply go_block)
             | (with_reducible apply go_exit))
           | (with_reducible apply go_kseq)
           | (with_reducible apply go_kblock)
           | (with_reducible apply go_kblock_exit)
           | (with_reducible apply go_kseq_exit)
  all_goals try (exfalso; omega)
  refine go_count (l.length - (b + 1)) (fun q => ⟨[(3, .os 1 0 (Y ++ progB l a b q).length), (6, .int .i64 ((b + 1 + q : Nat) : Int)), (5, .int .i64 b), (4, .int .i64 a), (11, .int .i64 a), (10, .int .i64 l.length), (0, .sl (l.map encPt))], [(1, ⟨3, true, (Y ++ progB l a b q).map encB⟩)], 32, 83⟩) (fun q => (Y ++ progB l a b q).length ≤ a * 81 + m * 9 + q)
    (entails_eq (nx := 32) (k := 0) (ns := []) (ks := [3, 6, 5, 4, 11, 10, 0]) [(1, 1)] rfl (by simp) (by rw [show Y ++ progB l a b 0 = Y from List.append_nil _]; kernel_rfl)) (by rw [show Y ++ progB l a b 0 = Y from List.append_nil _]; omega) ?_
  intro q hq hCq
  by_cases hlq : q < l.length - (b + 1)
  rotate_left
  · have e : q = l.length - (b + 1) := by omega
    rw [← e]
    generalize Y ++ progB l a b q = Z at *
    repeat' first
           | (with_reducible apply go_op)
           | (with_reducible apply go_next)
           | ((with_reducible (show evOp _ _ _ _ _ _)); first
             | ((with_reducible (show evOp _ (.move _) _ _ _ _)) ; first | ((with_reducible apply go_mv_int); rfl; rfl) | ((with_reducible apply go_mv_sl); rfl; rfl))
             | ((with_reducible apply go_as))
             | (((with_reducible apply go_ld_ptr); rfl; rfl; rfl))
             | (((with_reducible apply go_index_nat); rfl; rfl; (with_reducible rfl); (intro; rfl); rfl; omega; (intro hlt)))
             | ((with_reducible (show evOp _ (.binOp _ _ _ _ _) _ _ _ _)) ; first | ((with_reducible apply go_cmp); rfl; rfl; rfl; rfl) | ((with_reducible apply go_add); rfl; rfl; rfl; omega))
             | (((with_reducible apply go_len); rfl; rfl))
             | (((with_reducible apply go_st_agg); rfl; rfl; rfl; rfl; rfl; rfl; rfl))
             | (((with_reducible apply go_bd3_iii); rfl; rfl; rfl; rfl; rfl))
             | (((with_reducible apply go_alloc); rfl; rfl; rfl)))
           | ((with_reducible (show evOps _ _ _ _ _ _)); first
             | (with_reducible apply go_nil)
             | ((with_reducible apply go_pre); rfl))
           | ((with_reducible (show evG _ _ _ _ _)); first
             | (with_reducible apply go_seq)
             | (with_reducible apply go_region)
             | (((with_reducible apply go_cond); rfl) <;> (intro h; simp only [h]; try simp only [decide_eq_true_eq, decide_eq_false_iff_not, Bool.not_eq_true', Bool.not_eq_false', Bool.not_true, Bool.not_false] at h; try exact absurd trivial h))
             | ((with_reducible apply go_order); kernel_rfl; rfl)
             | (with_reducible apply go_skipc)
             | (with_reducible apply go_block)
             | (with_reducible apply go_exit))
           | (with_reducible apply go_kseq)
           | (with_reducible apply go_kblock)
           | (with_reducible apply go_kblock_exit)
           | (with_reducible apply go_kseq_exit)
    all_goals try (exfalso; omega)
    exact ⟨by omega, by omega, entails_eq (nx := 32) (k := 0) (ns := []) (ks := [3, 5, 4, 11, 10, 0]) [(1, 1)] rfl (by simp) (by rw [hb]; kernel_rfl)⟩
  rw [progB_step]
  generalize Y ++ progB l a b q = Z at *
  obtain ⟨c, hc⟩ : ∃ c, c = b + 1 + q := ⟨_, rfl⟩
  rw [← hc]
  have hcl : c < l.length := by omega
  have ma : l[a] ∈ l := List.getElem_mem hla
  have mb : l[b] ∈ l := List.getElem_mem hbl
  have mc : l[c] ∈ l := List.getElem_mem hcl
  have x1 := c_cross l[a] l[b] l[c] (hok _ ma) (hok _ mb) (hok _ mc)
  have x2 := c_belongs l (by omega) hok hf l[a] l[b] l[c] ma mb mc
  have x3 := c_belongs l (by omega) hok hf l[a] l[c] l[b] ma mc mb
  rw [← belT_get hla hbl hcl] at x2
  rw [← belT_get hla hcl hbl] at x3
  rw [← crT_get hla hbl hcl] at x1
  have hlen := T3_len l a b c
  have hno : crT l a b c = 0 → Z ++ T3 l a b c = Z := fun h => by rw [T3, if_neg (by omega), if_neg (by omega)]; exact List.append_nil _
  have hp1 : 0 < crT l a b c → belT l a b c = true → Z ++ T3 l a b c = Z ++ [⟨⟨a, b, c⟩, by simp only; omega⟩] := fun h h' => by rw [T3, if_pos h, if_pos h', mkB_eq ⟨by omega, by omega, by omega⟩]
  have hp2 : 0 < crT l a b c → belT l a b c = false → Z ++ T3 l a b c = Z := fun h h' => by rw [T3, if_pos h, if_neg (by rw [h']; simp)]; exact List.append_nil _
  have hn1 : crT l a b c < 0 → belT l a c b = true → Z ++ T3 l a b c = Z ++ [⟨⟨a, c, b⟩, by simp only; omega⟩] := fun h h' => by rw [T3, if_neg (by omega), if_pos h, if_pos h', mkB_eq ⟨by omega, by omega, by omega⟩]
  have hn2 : crT l a b c < 0 → belT l a c b = false → Z ++ T3 l a b c = Z := fun h h' => by rw [T3, if_neg (by omega), if_pos h, if_neg (by rw [h']; simp)]; exact List.append_nil _
  generalize crT l a b c = cr at *
  generalize belT l a b c = v1 at *
  generalize belT l a c b = v2 at *
  repeat' first
           | (with_reducible apply go_op)
           | (with_reducible apply go_next)
           | ((with_reducible (show evOp _ _ _ _ _ _)); first
             | ((with_reducible (show evOp _ (.move _) _ _ _ _)) ; first | ((with_reducible apply go_mv_int); rfl; rfl) | ((with_reducible apply go_mv_bool); rfl; rfl) | ((with_reducible apply go_mv_sl); rfl; rfl) | ((with_reducible apply go_mv_os); rfl; rfl))
             | ((with_reducible apply go_as))
             | ((with_reducible (show evOp _ (.load _ _) _ _ _ _)) ; first | ((with_reducible apply go_ld_ptr); rfl; rfl; rfl) | ((with_reducible apply go_ld_agg); rfl; rfl; rfl; rfl) | ((with_reducible apply go_load_own); rfl; rfl; rfl; rfl))
             | (((with_reducible apply go_fieldAddr_own); rfl; rfl; rfl))
             | (((with_reducible apply go_index_nat); rfl; rfl; (with_reducible rfl); (intro; rfl); rfl; omega; (intro hlt)))
             | ((with_reducible (show evOp _ (.binOp _ _ _ _ _) _ _ _ _)) ; first | ((with_reducible apply go_cmp); rfl; rfl; rfl; rfl) | ((with_reducible apply go_add); rfl; rfl; rfl; omega))
             | ((with_reducible (show evOp _ (.call _) _ _ _ _)) ; first | ((with_reducible apply go_len); rfl; rfl) | ((with_reducible apply go_fn_int); rfl; (exact x1); rfl) | ((with_reducible apply go_fn_bool); rfl; (exact x2); rfl) | ((with_reducible apply go_fn_bool); rfl; (exact x3); rfl))
             | ((with_reducible (show evOp _ (.store _ _ _) _ _ _ _)) ; first | ((with_reducible apply go_st_agg); rfl; rfl; rfl; rfl; rfl; rfl; rfl) | ((with_reducible apply go_store); rfl; rfl; rfl; rfl; rfl; rfl; (exact Nat.le_of_ble_eq_true rfl); (first | exact Nat.le_of_ble_eq_true rfl | omega); rfl; rfl))
             | (((with_reducible apply go_pick); rfl; rfl; rfl))
             | ((with_reducible (show evOp _ (.build _ _) _ _ _ _)) ; first | ((with_reducible apply go_bd3_iii); rfl; rfl; rfl; rfl; rfl) | ((with_reducible apply go_build); rfl; rfl))
             | (((with_reducible apply go_alloc); rfl; rfl; rfl))
             | (((with_reducible apply go_bs1_agg); rfl; rfl; rfl; rfl; rfl; rfl)))
           | ((with_reducible (show evOps _ _ _ _ _ _)); first
             | (with_reducible apply go_nil)
             | ((with_reducible apply go_run); rfl; rfl)
             | ((with_reducible apply go_pass); rfl; rfl; rfl)
             | (((with_reducible apply go_guard); rfl) <;> (intro h; simp only [h, Bool.not_true, Bool.not_false]; (try with_reducible (refine ⟨rfl, ?_⟩)); try simp only [decide_eq_true_eq, decide_eq_false_iff_not, Bool.not_eq_true', Bool.not_eq_false', Bool.not_true, Bool.not_false] at h; try exact absurd trivial h))
             | ((with_reducible apply go_pre); rfl)
             | (with_reducible apply go_pre_nil)
             | ((with_reducible apply go_suf); rfl)
             | (with_reducible apply go_suf_nil))
           | ((with_reducible (show evG _ _ _ _ _)); first
             | (with_reducible apply go_seq)
             | (with_reducible apply go_region)
             | ((with_reducible apply go_cond_f); rfl; rfl)
             | (((with_reducible apply go_cond); rfl) <;> (intro h; simp only [h]; try simp only [decide_eq_true_eq, decide_eq_false_iff_not, Bool.not_eq_true', Bool.not_eq_false', Bool.not_true, Bool.not_false] at h; try exact absurd trivial h))
             | ((with_reducible apply go_order); kernel_rfl; rfl)
             | (with_reducible apply go_skipc)
             | (with_reducible apply go_block)
             | (with_reducible apply go_exit))
           | (with_reducible apply go_kseq)
           | (with_reducible apply go_ksuf)
           | (with_reducible apply go_kblock)
           | (with_reducible apply go_kblock_exit)
           | (with_reducible apply go_kseq_exit)
  all_goals try (exfalso; omega)
  · have e := hn1 (by omega) (by assumption)
    refine go_app_map (f := encB) (a := ⟨⟨a, c, b⟩, by simp only; omega⟩) (l := Z) scalB rfl rfl rfl rfl rfl (by kernel_rfl) (by kernel_rfl) (by kernel_rfl) (by omega) rfl ?_
    repeat' first
           | (with_reducible apply go_op)
           | (with_reducible apply go_next)
           | ((with_reducible (show evOp _ _ _ _ _ _)); first
             | ((with_reducible (show evOp _ (.move _) _ _ _ _)) ; first | ((with_reducible apply go_mv_int); rfl; rfl) | ((with_reducible apply go_mv_os); rfl; rfl))
             | ((with_reducible apply go_as))
             | (((with_reducible apply go_add); rfl; rfl; rfl; omega)))
           | ((with_reducible (show evOps _ _ _ _ _ _)); first
             | (with_reducible apply go_nil))
           | ((with_reducible (show evG _ _ _ _ _)); first
             | (with_reducible apply go_region))
           | (with_reducible apply go_kseq)
           | (with_reducible apply go_kblock)
    all_goals try (exfalso; omega)
    exact ⟨by omega, by rw [List.length_append]; omega, by rw [e, show b + 1 + (q + 1) = c + 1 by omega]; exact entails_eq (nx := 32) (k := 0) (ns := []) (ks := [3, 6, 5, 4, 11, 10, 0]) [(1, 1)] rfl (by simp) (by rw [List.length_append]; kernel_rfl)⟩
  · have e := hn2 (by omega) (by assumption)
    exact ⟨by omega, by rw [List.length_append]; omega, by rw [e, show b + 1 + (q + 1) = c + 1 by omega]; exact entails_eq (nx := 32) (k := 0) (ns := []) (ks := [3, 6, 5, 4, 11, 10, 0]) [(1, 1)] rfl (by simp) (by kernel_rfl)⟩
  · have e := hp1 (by omega) (by assumption)
    refine go_app_map (f := encB) (a := ⟨⟨a, b, c⟩, by simp only; omega⟩) (l := Z) scalB rfl rfl rfl rfl rfl (by kernel_rfl) (by kernel_rfl) (by kernel_rfl) (by omega) rfl ?_
    repeat' first
           | (with_reducible apply go_op)
           | (with_reducible apply go_next)
           | ((with_reducible (show evOp _ _ _ _ _ _)); first
             | ((with_reducible (show evOp _ (.move _) _ _ _ _)) ; first | ((with_reducible apply go_mv_int); rfl; rfl) | ((with_reducible apply go_mv_os); rfl; rfl))
             | ((with_reducible apply go_as))
             | (((with_reducible apply go_add); rfl; rfl; rfl; omega)))
           | ((with_reducible (show evOps _ _ _ _ _ _)); first
             | (with_reducible apply go_nil))
           | ((with_reducible (show evG _ _ _ _ _)); first
             | (with_reducible apply go_region))
           | (with_reducible apply go_kseq)
           | (with_reducible apply go_kblock)
    all_goals try (exfalso; omega)
    exact ⟨by omega, by rw [List.length_append]; omega, by rw [e, show b + 1 + (q + 1) = c + 1 by omega]; exact entails_eq (nx := 32) (k := 0) (ns := []) (ks := [3, 6, 5, 4, 11, 10, 0]) [(1, 1)] rfl (by simp) (by rw [List.length_append]; kernel_rfl)⟩
  · have e := hp2 (by omega) (by assumption)
    exact ⟨by omega, by rw [List.length_append]; omega, by rw [e, show b + 1 + (q + 1) = c + 1 by omega]; exact entails_eq (nx := 32) (k := 0) (ns := []) (ks := [3, 6, 5, 4, 11, 10, 0]) [(1, 1)] rfl (by simp) (by kernel_rfl)⟩
  · have e := hno (by omega)
    exact ⟨by omega, by rw [List.length_append]; omega, by rw [e, show b + 1 + (q + 1) = c + 1 by omega]; exact entails_eq (nx := 32) (k := 0) (ns := []) (ks := [3, 6, 5, 4, 11, 10, 0]) [(1, 1)] rfl (by simp) (by kernel_rfl)⟩
end Go.Pv.Geo

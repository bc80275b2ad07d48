import Derived.Test.YtbojgmhpmcnfjaaProg
import Derived.Test.YtbojgmhpmcnfjaaGF
import Derived.KernelRfl
/- Part of the proofs over Ytbojgmhpmcnfjaa: H25, H26, H27, H28, H29. -/
set_option linter.unusedVariables false
set_option linter.unusedSimpArgs false
set_option linter.unnecessarySimpa false
open Go Go.Proofs Go.Pv
set_option maxHeartbeats 4000000
set_option maxRecDepth 100000
set_option linter.unusedSimpArgs false
set_option linter.unusedVariables false
namespace Go.Pv.Geo
structure Nd where
  x : Int
  y : Int
  lev : Int
  deriving DecidableEq
def encNd (p : Nd) : List D := [.int .i64 p.x, .int .i64 p.y, .int .i64 p.lev]
theorem scalNd : ScalF encNd 3 := fun _ => ⟨rfl, rfl⟩
def ptN (p : Nd) : Pt := ⟨p.x, p.y⟩
def lvOK (n : Int) : Bool := decide (-20000 ≤ n ∧ n ≤ 20000)
theorem lv_bd {n : Int} (h : lvOK n = true) : -20000 ≤ n ∧ n ≤ 20000 := of_decide_eq_true h
def ndOK (p : Nd) : Bool := ptOK (ptN p) && lvOK p.lev
theorem nd_ok {p : Nd} (h : ndOK p = true) : ptOK (ptN p) = true ∧ lvOK p.lev = true := by simpa [ndOK] using h
def ndI (l : List Nd) (n : Int) : Nd := l.getD n.toNat ⟨0, 0, 0⟩
theorem ndI_get {l : List Nd} {n : Int} (h : n.toNat < l.length) : l[n.toNat] = ndI l n := by simp [ndI, List.getD_eq_getElem?_getD, h]
theorem ndI_mem {l : List Nd} {n : Int} (h : 0 ≤ n ∧ n < l.length) : ndI l n ∈ l := by
  rw [← ndI_get (by omega)]; exact List.getElem_mem _
theorem c_leveled (n : Int) : Contract Try.prog 94 [.int .i64 n] (.ret (.bool (lvOK n))) := by
  refine contract_of mix Try.func94 rfl rfl (by rw [Try.ntmps94]; exact Nat.le_of_ble_eq_true rfl) ?_; rw [Try.results94, Try.ntmps94]; simp only [argsE, Nat.reduceAdd]
  repeat' first
           | (with_reducible apply go_op)
           | (with_reducible apply go_next)
           | ((with_reducible (show evOp _ _ _ _ _ _)); first
             | ((with_reducible (show evOp _ (.move _) _ _ _ _)) ; first | ((with_reducible apply go_mv_int); rfl; rfl) | ((with_reducible apply go_mv_bool); rfl; rfl))
             | ((with_reducible apply go_as))
             | (((with_reducible apply go_cmp); rfl; rfl; rfl; rfl))
             | (((with_reducible apply go_pick); rfl; rfl; rfl)))
           | ((with_reducible (show evOps _ _ _ _ _ _)); first
             | (with_reducible apply go_nil)
             | ((with_reducible apply go_run); rfl; rfl)
             | ((with_reducible apply go_pass); rfl; rfl; rfl)
             | (((with_reducible apply go_guard); rfl) <;> (intro h; simp only [h, Bool.not_true, Bool.not_false]; (try with_reducible (refine ⟨rfl, ?_⟩)); try simp only [decide_eq_true_eq, decide_eq_false_iff_not, Bool.not_eq_true', Bool.not_eq_false', Bool.not_true, Bool.not_false] at h; try exact absurd trivial h)))
           | ((with_reducible (show evG _ _ _ _ _)); first
             | (with_reducible apply go_seq)
             | (with_reducible apply go_region)
             | (with_reducible apply go_ret))
           | (with_reducible apply go_kseq)
           | ((with_reducible apply end_bool); rfl)
  all_goals (unfold lvOK; first | exact (decide_eq_true (by omega)).symm | exact (decide_eq_false (by omega)).symm | (exact decide_eq_decide.2 (by omega)) | trace_state)
theorem c_place (p : Nd) : Contract Try.prog 95 [.agg (encNd p)] (.ret (.agg (encPt (ptN p)))) := by
  refine contract_of mix Try.func95 rfl rfl (by rw [Try.ntmps95]; exact Nat.le_of_ble_eq_true rfl) ?_; rw [Try.results95, Try.ntmps95]; simp only [argsE, Nat.reduceAdd]
  repeat' first
           | (with_reducible apply go_op)
           | (with_reducible apply go_next)
           | ((with_reducible (show evOp _ _ _ _ _ _)); first
             | (((with_reducible apply go_load_own); rfl; rfl; rfl; rfl))
             | (((with_reducible apply go_fieldAddr_own); rfl; rfl; rfl))
             | (((with_reducible apply go_st_agg); rfl; rfl; rfl; rfl; rfl; rfl; rfl))
             | (((with_reducible apply go_bd2_int); rfl; rfl; rfl; rfl))
             | (((with_reducible apply go_bx_agg); rfl; rfl; (exact Nat.le_of_ble_eq_true rfl); rfl; rfl))
             | (((with_reducible apply go_alloc); rfl; rfl; rfl)))
           | ((with_reducible (show evOps _ _ _ _ _ _)); first
             | (with_reducible apply go_nil))
           | ((with_reducible (show evG _ _ _ _ _)); first
             | (with_reducible apply go_seq)
             | (with_reducible apply go_region)
             | (with_reducible apply go_ret))
           | (with_reducible apply go_kseq)
           | ((with_reducible apply end_agg); rfl; rfl)
  all_goals rfl
/-- A fraction in lowest terms. -/
def lowN (n d : Int) : Int × Int := (n.tdiv (Nat.gcd n.natAbs d.natAbs), d.tdiv (Nat.gcd n.natAbs d.natAbs))
def lowE (a b : Int) : Int × Int := if b < 0 then lowN (0 - a) (0 - b) else lowN a b
theorem tdiv_bd {a : Int} {g : Nat} (ha : -1000000000000000000 ≤ a ∧ a ≤ 1000000000000000000) : -1000000000000000000 ≤ a.tdiv g ∧ a.tdiv g ≤ 1000000000000000000 := by
  have := Int.natAbs_tdiv_le_natAbs a g
  omega
theorem rem_nat (x y : Nat) : Int.tmod (x : Int) (y : Int) = ((x % y : Nat) : Int) := (Int.ofNat_tmod x y).symm
theorem c_lowest (a b : Int) (ha : -1000000000000000000 ≤ a ∧ a ≤ 1000000000000000000) (hb : -1000000000000000000 ≤ b ∧ b ≤ 1000000000000000000) (h0 : b ≠ 0) :
    Contract Try.prog 93 [.int .i64 a, .int .i64 b] (.ret (.agg [.int .i64 (lowE a b).1, .int .i64 (lowE a b).2])) := by
  refine contract_of mix Try.func93 rfl rfl (by rw [Try.ntmps93]; exact Nat.le_of_ble_eq_true rfl) ?_; rw [Try.results93, Try.ntmps93]; simp only [argsE, Nat.reduceAdd]
  repeat' first
           | (with_reducible apply go_op)
           | (with_reducible apply go_next)
           | ((with_reducible (show evOp _ _ _ _ _ _)); first
             | (((with_reducible apply go_mv_int); rfl; rfl))
             | ((with_reducible apply go_as))
             | (((with_reducible apply go_cmp); rfl; rfl; rfl; rfl))
             | (((with_reducible apply go_max); rfl; rfl; rfl))
             | (((with_reducible apply go_neg); rfl; rfl; omega))
             | (((with_reducible apply go_alloc); rfl; rfl; rfl)))
           | ((with_reducible (show evOps _ _ _ _ _ _)); first
             | (with_reducible apply go_nil))
           | ((with_reducible (show evG _ _ _ _ _)); first
             | (with_reducible apply go_seq)
             | (with_reducible apply go_region)
             | (((with_reducible apply go_cond); rfl) <;> (intro h; simp only [h]; try simp only [decide_eq_true_eq, decide_eq_false_iff_not, Bool.not_eq_true', Bool.not_eq_false', Bool.not_true, Bool.not_false] at h; try exact absurd trivial h))
             | (with_reducible apply go_skipc)
             | (with_reducible apply go_block))
           | (with_reducible apply go_kseq)
  · have he : lowE a b = lowN (0 - a) (0 - b) := if_pos h
    rw [he]
    have hn : -1000000000000000000 ≤ 0 - a ∧ 0 - a ≤ 1000000000000000000 := by omega
    have hd : 0 < 0 - b ∧ 0 - b ≤ 1000000000000000000 := by omega
    have hm : max (0 - a) (0 - (0 - a)) = ((0 - a).natAbs : Int) := by omega
    rw [hm]
    clear he ha hb h h0
    generalize 0 - a = n at *
    generalize 0 - b = d at *
    obtain ⟨m, rfl⟩ : ∃ m : Nat, d = m := ⟨d.toNat, by omega⟩
    refine go_while (fun x : Nat × Nat => x.2) (fun x => ⟨[(6, .int .i64 (x.2 : Int)), (5, .int .i64 (x.1 : Int)), (4, .op 0 0 0), (1, .int .i64 (m : Int)), (0, .int .i64 n)], [(0, ⟨2, true, [[.int .i64 0, .int .i64 0]]⟩)], 32, 31⟩) (fun x => (x.1 ≤ 1000000000000000000 ∧ x.2 ≤ 1000000000000000000) ∧ (0 < x.1 ∨ 0 < x.2) ∧ Nat.gcd x.1 x.2 = Nat.gcd n.natAbs m) (n.natAbs, m)
      (entails_eq (nx := 32) (k := 0) (ns := []) (ks := [6, 5, 4, 1, 0]) [(0, 0)] rfl (by simp ) (by kernel_rfl)) ⟨by omega, by simp; omega, rfl⟩ ?_
    rintro ⟨x, y⟩ ⟨hC1, hC2, hC3⟩
    simp only at hC1 hC2 hC3
    repeat' first
           | (with_reducible apply go_op)
           | (with_reducible apply go_next)
           | ((with_reducible (show evOp _ _ _ _ _ _)); first
             | (((with_reducible apply go_mv_int); rfl; rfl))
             | ((with_reducible apply go_as))
             | ((with_reducible (show evOp _ (.binOp _ _ _ _ _) _ _ _ _)) ; first | ((with_reducible apply go_cmp); rfl; rfl; rfl; rfl) | ((with_reducible apply go_rem_pos); rfl; rfl; rfl; omega) | ((with_reducible apply go_quo_pos); rfl; rfl; rfl; omega) | ((with_reducible apply go_quo_any); rfl; rfl; rfl; omega; omega))
             | (((with_reducible apply go_st_agg); rfl; rfl; rfl; rfl; rfl; rfl; rfl))
             | (((with_reducible apply go_bd2_int); rfl; rfl; rfl; rfl)))
           | ((with_reducible (show evOps _ _ _ _ _ _)); first
             | (with_reducible apply go_nil)
             | ((with_reducible apply go_pre); rfl)
             | ((with_reducible apply go_pre_stop); rfl)
             | ((with_reducible apply go_suf); rfl)
             | ((with_reducible apply go_suf_stop); rfl)
             | (with_reducible apply go_take)
             | (with_reducible apply go_take0))
           | ((with_reducible (show evG _ _ _ _ _)); first
             | (with_reducible apply go_seq)
             | (with_reducible apply go_region)
             | (((with_reducible apply go_cond); rfl) <;> (intro h; simp only [h]; try simp only [decide_eq_true_eq, decide_eq_false_iff_not, Bool.not_eq_true', Bool.not_eq_false', Bool.not_true, Bool.not_false] at h; try exact absurd trivial h))
             | ((with_reducible apply (go_drawL 4 [[2, 3], []])); decide +kernel; rfl)
             | ((with_reducible apply go_order); kernel_rfl; rfl)
             | (with_reducible apply go_ret)
             | (with_reducible apply go_skipc)
             | (with_reducible apply go_block)
             | (with_reducible apply go_exit))
           | (with_reducible apply go_klined)
           | (with_reducible apply go_line_drop)
           | (with_reducible apply go_line_drop0)
           | (with_reducible apply go_line)
           | (with_reducible apply go_line_nil)
           | (with_reducible apply go_kln)
           | (with_reducible apply go_again_nil)
           | ((with_reducible apply go_again); rfl; (intro id'))
           | ((with_reducible apply go_kagain); rfl)
           | (with_reducible apply go_kseq)
           | (with_reducible apply go_ksuf)
           | (with_reducible apply go_kblock)
           | (with_reducible apply go_kblock_exit)
           | (with_reducible apply go_kseq_exit)
           | ((with_reducible apply end_agg); rfl; rfl)
    · have hy : 0 < y := by omega
      have hlt := Nat.mod_lt x hy
      refine ⟨(y, x % y), hlt, ⟨⟨by omega, by omega⟩, .inl hy, ?_⟩, ?_⟩
      · rw [← hC3, Nat.gcd_comm x y, Nat.gcd_rec y x, Nat.gcd_comm]
      · exact entails_eq (nx := 32) (k := 0) (ns := []) (ks := [6, 5, 4, 1, 0]) [(0, 0)] rfl (by simp) (by kernel_rfl)
    · have hy : y = 0 := by omega
      subst hy
      rw [Nat.gcd_zero_right] at hC3
      subst hC3
      rw [lowN, Int.natAbs_natCast, Int.tdiv_eq_ediv_of_nonneg (a := (m : Int)) (by omega)]
      rfl
  · have he : lowE a b = lowN a b := if_neg h
    rw [he]
    have hn : -1000000000000000000 ≤ a ∧ a ≤ 1000000000000000000 := by omega
    have hd : 0 < b ∧ b ≤ 1000000000000000000 := by omega
    have hm : max a (0 - a) = (a.natAbs : Int) := by omega
    rw [hm]
    clear he ha hb h h0
    revert a b
    intro n d hn hd hm
    obtain ⟨m, rfl⟩ : ∃ m : Nat, d = m := ⟨d.toNat, by omega⟩
    refine go_while (fun x : Nat × Nat => x.2) (fun x => ⟨[(6, .int .i64 (x.2 : Int)), (5, .int .i64 (x.1 : Int)), (4, .op 0 0 0), (1, .int .i64 (m : Int)), (0, .int .i64 n)], [(0, ⟨2, true, [[.int .i64 0, .int .i64 0]]⟩)], 32, 31⟩) (fun x => (x.1 ≤ 1000000000000000000 ∧ x.2 ≤ 1000000000000000000) ∧ (0 < x.1 ∨ 0 < x.2) ∧ Nat.gcd x.1 x.2 = Nat.gcd n.natAbs m) (n.natAbs, m)
      (entails_eq (nx := 32) (k := 0) (ns := []) (ks := [6, 5, 4, 1, 0]) [(0, 0)] rfl (by simp ) (by kernel_rfl)) ⟨by omega, by simp; omega, rfl⟩ ?_
    rintro ⟨x, y⟩ ⟨hC1, hC2, hC3⟩
    simp only at hC1 hC2 hC3
    repeat' first
           | (with_reducible apply go_op)
           | (with_reducible apply go_next)
           | ((with_reducible (show evOp _ _ _ _ _ _)); first
             | (((with_reducible apply go_mv_int); rfl; rfl))
             | ((with_reducible apply go_as))
             | ((with_reducible (show evOp _ (.binOp _ _ _ _ _) _ _ _ _)) ; first | ((with_reducible apply go_cmp); rfl; rfl; rfl; rfl) | ((with_reducible apply go_rem_pos); rfl; rfl; rfl; omega) | ((with_reducible apply go_quo_pos); rfl; rfl; rfl; omega) | ((with_reducible apply go_quo_any); rfl; rfl; rfl; omega; omega))
             | (((with_reducible apply go_st_agg); rfl; rfl; rfl; rfl; rfl; rfl; rfl))
             | (((with_reducible apply go_bd2_int); rfl; rfl; rfl; rfl)))
           | ((with_reducible (show evOps _ _ _ _ _ _)); first
             | (with_reducible apply go_nil)
             | ((with_reducible apply go_pre); rfl)
             | ((with_reducible apply go_pre_stop); rfl)
             | ((with_reducible apply go_suf); rfl)
             | ((with_reducible apply go_suf_stop); rfl)
             | (with_reducible apply go_take)
             | (with_reducible apply go_take0))
           | ((with_reducible (show evG _ _ _ _ _)); first
             | (with_reducible apply go_seq)
             | (with_reducible apply go_region)
             | (((with_reducible apply go_cond); rfl) <;> (intro h; simp only [h]; try simp only [decide_eq_true_eq, decide_eq_false_iff_not, Bool.not_eq_true', Bool.not_eq_false', Bool.not_true, Bool.not_false] at h; try exact absurd trivial h))
             | ((with_reducible apply (go_drawL 4 [[2, 3], []])); decide +kernel; rfl)
             | ((with_reducible apply go_order); kernel_rfl; rfl)
             | (with_reducible apply go_ret)
             | (with_reducible apply go_skipc)
             | (with_reducible apply go_block)
             | (with_reducible apply go_exit))
           | (with_reducible apply go_klined)
           | (with_reducible apply go_line_drop)
           | (with_reducible apply go_line_drop0)
           | (with_reducible apply go_line)
           | (with_reducible apply go_line_nil)
           | (with_reducible apply go_kln)
           | (with_reducible apply go_again_nil)
           | ((with_reducible apply go_again); rfl; (intro id'))
           | ((with_reducible apply go_kagain); rfl)
           | (with_reducible apply go_kseq)
           | (with_reducible apply go_ksuf)
           | (with_reducible apply go_kblock)
           | (with_reducible apply go_kblock_exit)
           | (with_reducible apply go_kseq_exit)
           | ((with_reducible apply end_agg); rfl; rfl)
    · have hy : 0 < y := by omega
      have hlt := Nat.mod_lt x hy
      refine ⟨(y, x % y), hlt, ⟨⟨by omega, by omega⟩, .inl hy, ?_⟩, ?_⟩
      · rw [← hC3, Nat.gcd_comm x y, Nat.gcd_rec y x, Nat.gcd_comm]
      · exact entails_eq (nx := 32) (k := 0) (ns := []) (ks := [6, 5, 4, 1, 0]) [(0, 0)] rfl (by simp) (by kernel_rfl)
    · have hy : y = 0 := by omega
      subst hy
      rw [Nat.gcd_zero_right] at hC3
      subst hC3
      rw [lowN, Int.natAbs_natCast, Int.tdiv_eq_ediv_of_nonneg (a := (m : Int)) (by omega)]
      rfl
theorem c_rLowest (a b : Int) (ha : -1000000000000000000 ≤ a ∧ a ≤ 1000000000000000000) (hb : -1000000000000000000 ≤ b ∧ b ≤ 1000000000000000000) (h0 : b ≠ 0) :
    Contract Try.prog 96 [.int .i64 a, .int .i64 b] (.ret (.agg [.int .i64 (lowE a b).1, .int .i64 (lowE a b).2])) := by
  have x1 := c_abs a (by omega) (by omega)
  have x2 := c_abs b (by omega) (by omega)
  have y1 : absE a = (a.natAbs : Int) := by unfold absE; split <;> omega
  have y2 : absE b = (b.natAbs : Int) := by unfold absE; split <;> omega
  rw [y1] at x1
  rw [y2] at x2
  refine contract_of mix Try.func96 rfl rfl (by rw [Try.ntmps96]; exact Nat.le_of_ble_eq_true rfl) ?_; rw [Try.results96, Try.ntmps96]; simp only [argsE, Nat.reduceAdd]
  repeat' first
           | (with_reducible apply go_op)
           | (with_reducible apply go_next)
           | ((with_reducible (show evOp _ _ _ _ _ _)); first
             | (((with_reducible apply go_mv_int); rfl; rfl))
             | ((with_reducible apply go_as))
             | ((with_reducible (show evOp _ (.call _) _ _ _ _)) ; first | ((with_reducible apply go_fn_int); rfl; (exact x1); rfl) | ((with_reducible apply go_fn_int); rfl; (exact x2); rfl))
             | (((with_reducible apply go_alloc); rfl; rfl; rfl)))
           | ((with_reducible (show evOps _ _ _ _ _ _)); first
             | (with_reducible apply go_nil))
           | ((with_reducible (show evG _ _ _ _ _)); first
             | (with_reducible apply go_seq)
             | (with_reducible apply go_region)
             | (with_reducible apply go_block))
           | (with_reducible apply go_kseq)
  refine go_while (fun x : Nat × Nat => x.2) (fun x => ⟨[(6, .int .i64 (x.2 : Int)), (5, .int .i64 (x.1 : Int)), (4, .op 0 0 0), (1, .int .i64 b), (0, .int .i64 a)], [(0, ⟨2, true, [[.int .i64 0, .int .i64 0]]⟩)], 32, 28⟩) (fun x => (x.1 ≤ 1000000000000000000 ∧ x.2 ≤ 1000000000000000000) ∧ (0 < x.1 ∨ 0 < x.2) ∧ Nat.gcd x.1 x.2 = Nat.gcd a.natAbs b.natAbs) (a.natAbs, b.natAbs)
    (entails_eq (nx := 32) (k := 0) (ns := []) (ks := [6, 5, 4, 1, 0]) [(0, 0)] rfl (by simp) (by kernel_rfl)) ⟨by omega, by simp; omega, rfl⟩ ?_
  rintro ⟨x, y⟩ ⟨hC1, hC2, hC3⟩
  simp only at hC1 hC2 hC3
  repeat' first
           | (with_reducible apply go_op)
           | (with_reducible apply go_next)
           | ((with_reducible (show evOp _ _ _ _ _ _)); first
             | (((with_reducible apply go_mv_int); rfl; rfl))
             | ((with_reducible apply go_as))
             | ((with_reducible (show evOp _ (.binOp _ _ _ _ _) _ _ _ _)) ; first | ((with_reducible apply go_cmp); rfl; rfl; rfl; rfl) | ((with_reducible apply go_rem_pos); rfl; rfl; rfl; omega) | ((with_reducible apply go_quo_pos); rfl; rfl; rfl; omega) | ((with_reducible apply go_quo_any); rfl; rfl; rfl; omega; omega))
             | (((with_reducible apply go_st_agg); rfl; rfl; rfl; rfl; rfl; rfl; rfl))
             | (((with_reducible apply go_neg); rfl; rfl; omega))
             | (((with_reducible apply go_bd2_int); rfl; rfl; rfl; rfl)))
           | ((with_reducible (show evOps _ _ _ _ _ _)); first
             | (with_reducible apply go_nil)
             | ((with_reducible apply go_pre); rfl)
             | ((with_reducible apply go_pre_stop); rfl)
             | ((with_reducible apply go_suf); rfl)
             | ((with_reducible apply go_suf_stop); rfl)
             | (with_reducible apply go_take)
             | (with_reducible apply go_take0))
           | ((with_reducible (show evG _ _ _ _ _)); first
             | (with_reducible apply go_seq)
             | (with_reducible apply go_region)
             | (((with_reducible apply go_cond); rfl) <;> (intro h; simp only [h]; try simp only [decide_eq_true_eq, decide_eq_false_iff_not, Bool.not_eq_true', Bool.not_eq_false', Bool.not_true, Bool.not_false] at h; try exact absurd trivial h))
             | ((with_reducible apply (go_drawL 4 [[2, 3], []])); decide +kernel; rfl)
             | ((with_reducible apply go_order); kernel_rfl; rfl)
             | (with_reducible apply go_ret)
             | (with_reducible apply go_skipc)
             | (with_reducible apply go_block)
             | (with_reducible apply go_exit))
           | (with_reducible apply go_klined)
           | (with_reducible apply go_line_drop)
           | (with_reducible apply go_line_drop0)
           | (with_reducible apply go_line)
           | (with_reducible apply go_line_nil)
           | (with_reducible apply go_kln)
           | (with_reducible apply go_again_nil)
           | ((with_reducible apply go_again); rfl; (intro id'))
           | ((with_reducible apply go_kagain); rfl)
           | (with_reducible apply go_kseq)
           | (with_reducible apply go_ksuf)
           | (with_reducible apply go_kblock)
           | (with_reducible apply go_kblock_exit)
           | (with_reducible apply go_kseq_exit)
           | ((with_reducible apply end_agg); rfl; rfl)
  · have hy : 0 < y := by omega
    have hlt := Nat.mod_lt x hy
    refine ⟨(y, x % y), hlt, ⟨⟨by omega, by omega⟩, .inl hy, ?_⟩, ?_⟩
    · rw [← hC3, Nat.gcd_comm x y, Nat.gcd_rec y x, Nat.gcd_comm]
    · exact entails_eq (nx := 32) (k := 0) (ns := []) (ks := [6, 5, 4, 1, 0]) [(0, 0)] rfl (by simp) (by kernel_rfl)
  · have hy : y = 0 := by omega
    subst hy
    rw [Nat.gcd_zero_right] at hC3
    subst hC3
    have e : ∀ z : Int, ∀ w : Int, z.tdiv (0 - w) = (0 - z).tdiv w := fun z w => by rw [Int.zero_sub, Int.zero_sub, Int.tdiv_neg, Int.neg_tdiv]
    rw [lowE, if_pos (by assumption), lowN, e, e, show (0 - a).natAbs = a.natAbs by omega, show (0 - b).natAbs = b.natAbs by omega]
    rfl
  · have hy : y = 0 := by omega
    subst hy
    rw [Nat.gcd_zero_right] at hC3
    subst hC3
    rw [lowE, if_neg (by assumption), lowN, Int.tdiv_eq_ediv_of_nonneg (a := b) (by omega)]
    rfl
end Go.Pv.Geo

open Go Go.Proofs Go.Pv
set_option maxHeartbeats 4000000
set_option maxRecDepth 100000
set_option linter.unusedSimpArgs false
set_option linter.unusedVariables false
namespace Go.Pv.Geo
/-- The error of nodes and three of their numbers. -/
def nodeE (l : List Nd) (t : Tri) : Int := if 64 < l.length then 8 else if (l.any fun p => !ndOK p) = true then 2 else if hasE l.length t = false then 6 else
  if crossE (ptN (ndI l t.a)) (ptN (ndI l t.b)) (ptN (ndI l t.c)) = 0 then 10 else 0
theorem sign0 {n : Int} : signE n = 0 ↔ n = 0 := by unfold signE; (repeat' split) <;> omega
theorem nodeE_8 {l : List Nd} {t : Tri} (h : 64 < l.length) : nodeE l t = 8 := by unfold nodeE; rw [if_pos h]
theorem nodeE_2 {l : List Nd} {t : Tri} {i : Nat} (h : ¬ 64 < l.length) (hi : i < l.length) (hp : ndOK l[i] = false) : nodeE l t = 2 := by
  unfold nodeE; rw [if_neg h, if_pos (List.any_eq_true.2 ⟨_, List.getElem_mem hi, by rw [hp]; rfl⟩)]
theorem nodeE_r {l : List Nd} {t : Tri} (h : ¬ 64 < l.length) (hp : ∀ j (hj : j < l.length), ndOK l[j] = true) : nodeE l t = if hasE l.length t = false then 6 else
  if crossE (ptN (ndI l t.a)) (ptN (ndI l t.b)) (ptN (ndI l t.c)) = 0 then 10 else 0 := by
  unfold nodeE; rw [if_neg h, if_neg]
  simp only [List.any_eq_true, not_exists, not_and]
  intro x hx
  obtain ⟨j, hj, rfl⟩ := List.mem_iff_getElem.1 hx
  rw [hp j hj]; simp
theorem node_ok {l : List Nd} {t : Tri} (h : nodeE l t = 0 ∨ nodeE l t = 10) : l.length ≤ 64 ∧ (∀ p ∈ l, ndOK p = true) ∧ hasE l.length t = true := by
  unfold nodeE at h
  (repeat' split at h) <;> first | (rcases h with h | h <;> cases h; done) | skip
  all_goals
    rename_i h1 h2 h3 _
    refine ⟨by omega, fun p hp => ?_, by simpa using h3⟩
    simp only [List.any_eq_true, not_exists, not_and] at h2
    simpa using h2 p hp
theorem c_rNodes (l : List Nd) (hl : l.length < 1000000000000) (t : Tri) : Contract Try.prog 50 [.sl (l.map encNd), .agg (encTri t)] (.ret (.int .i64 (nodeE l t))) := by
  refine contract_of mix Try.func50 rfl rfl (by rw [Try.ntmps50]; exact Nat.le_of_ble_eq_true rfl) ?_; rw [Try.results50, Try.ntmps50]; simp only [argsE, Nat.reduceAdd]
  repeat' first
           | (with_reducible apply go_op)
           | (with_reducible apply go_next)
           | ((with_reducible (show evOp _ _ _ _ _ _)); first
             | ((with_reducible (show evOp _ (.move _) _ _ _ _)) ; first | ((with_reducible apply go_mv_int); rfl; rfl) | ((with_reducible apply go_mv_sl); rfl; rfl))
             | ((with_reducible apply go_as))
             | (((with_reducible apply go_cmp); rfl; rfl; rfl; rfl))
             | (((with_reducible apply go_len); rfl; rfl))
             | (((with_reducible apply go_bx_agg); rfl; rfl; (exact Nat.le_of_ble_eq_true rfl); rfl; rfl)))
           | ((with_reducible (show evOps _ _ _ _ _ _)); first
             | (with_reducible apply go_nil))
           | ((with_reducible (show evG _ _ _ _ _)); first
             | (with_reducible apply go_seq)
             | (with_reducible apply go_region)
             | (((with_reducible apply go_cond); rfl) <;> (intro h; simp only [h]; try simp only [decide_eq_true_eq, decide_eq_false_iff_not, Bool.not_eq_true', Bool.not_eq_false', Bool.not_true, Bool.not_false] at h; try exact absurd trivial h))
             | (with_reducible apply go_ret)
             | (with_reducible apply go_skipc)
             | (with_reducible apply go_block))
           | (with_reducible apply go_kseq)
           | (with_reducible apply go_kseq_ret)
           | ((with_reducible apply end_int); rfl)
  · exact (nodeE_8 (by omega)).symm
  refine go_count l.length (fun i => ⟨[(5, .int .i64 i), (3, .op 0 0 0), (0, .sl (l.map encNd))], [(0, ⟨3, true, [encTri t]⟩)], 32, 56⟩) (fun i => ∀ j (hj : j < i) (hj' : j < l.length), ndOK l[j] = true)
    (entails_eq (nx := 32) (k := 0) (ns := []) (ks := [5, 3, 0]) [(0, 0)] rfl (by simp) (by kernel_rfl)) (by omega) ?_
  intro i hi hC
  by_cases h2 : i < l.length
  · have g := c_good (ptN l[i])
    cases hp : ptOK (ptN l[i])
    · rw [hp] at g
      have hn : ndOK l[i] = false := by simp [ndOK, hp]
      repeat' first
           | (with_reducible apply go_op)
           | (with_reducible apply go_next)
           | ((with_reducible (show evOp _ _ _ _ _ _)); first
             | ((with_reducible (show evOp _ (.move _) _ _ _ _)) ; first | ((with_reducible apply go_mv_int); rfl; rfl) | ((with_reducible apply go_mv_bool); rfl; rfl) | ((with_reducible apply go_mv_sl); rfl; rfl))
             | ((with_reducible apply go_as))
             | ((with_reducible (show evOp _ (.load _ _) _ _ _ _)) ; first | ((with_reducible apply go_ld_ptr); rfl; rfl; rfl) | ((with_reducible apply go_ld_agg); rfl; rfl; rfl; rfl))
             | (((with_reducible apply go_index_nat); rfl; rfl; (with_reducible rfl); (intro; rfl); rfl; omega; (intro hlt)))
             | (((with_reducible apply go_cmp); rfl; rfl; rfl; rfl))
             | ((with_reducible (show evOp _ (.call _) _ _ _ _)) ; first | ((with_reducible apply go_len); rfl; rfl) | ((with_reducible apply go_fn_plain); rfl; (exact c_place _); rfl; (exact Nat.le_of_ble_eq_true rfl); rfl) | ((with_reducible apply go_fn_bool); rfl; (exact g); rfl))
             | (((with_reducible apply go_not); rfl; rfl))
             | (((with_reducible apply go_pick); rfl; rfl; rfl)))
           | ((with_reducible (show evOps _ _ _ _ _ _)); first
             | (with_reducible apply go_nil)
             | ((with_reducible apply go_pass); rfl; rfl; rfl))
           | ((with_reducible (show evG _ _ _ _ _)); first
             | (with_reducible apply go_seq)
             | (with_reducible apply go_region)
             | ((with_reducible apply go_cond_t); rfl; rfl)
             | (((with_reducible apply go_cond); rfl) <;> (intro h; simp only [h]; try simp only [decide_eq_true_eq, decide_eq_false_iff_not, Bool.not_eq_true', Bool.not_eq_false', Bool.not_true, Bool.not_false] at h; try exact absurd trivial h))
             | (with_reducible apply go_ret)
             | (with_reducible apply go_skipc)
             | (with_reducible apply go_block)
             | (with_reducible apply go_exit))
           | (with_reducible apply go_kseq)
           | (with_reducible apply go_kseq_ret)
           | (with_reducible apply go_kblock_ret)
           | (with_reducible apply go_kblock_exit)
           | (with_reducible apply go_kseq_exit)
           | ((with_reducible apply end_int); rfl)
      all_goals first
        | (exfalso; omega)
        | exact (nodeE_2 (by omega) h2 hn).symm
        | trace_state
    · rw [hp] at g
      have hn : ndOK l[i] = lvOK l[i].lev := by simp [ndOK, hp]
      repeat' first
           | (with_reducible apply go_op)
           | (with_reducible apply go_next)
           | ((with_reducible (show evOp _ _ _ _ _ _)); first
             | ((with_reducible (show evOp _ (.move _) _ _ _ _)) ; first | ((with_reducible apply go_mv_int); rfl; rfl) | ((with_reducible apply go_mv_bool); rfl; rfl) | ((with_reducible apply go_mv_sl); rfl; rfl))
             | ((with_reducible apply go_as))
             | ((with_reducible (show evOp _ (.load _ _) _ _ _ _)) ; first | ((with_reducible apply go_ld_ptr); rfl; rfl; rfl) | ((with_reducible apply go_ld_agg); rfl; rfl; rfl; rfl) | ((with_reducible apply go_load); rfl; rfl; rfl))
             | (((with_reducible apply go_fieldAddr); rfl; rfl))
             | (((with_reducible apply go_index_nat); rfl; rfl; (with_reducible rfl); (intro; rfl); rfl; omega; (intro hlt)))
             | ((with_reducible (show evOp _ (.binOp _ _ _ _ _) _ _ _ _)) ; first | ((with_reducible apply go_cmp); rfl; rfl; rfl; rfl) | ((with_reducible apply go_add); rfl; rfl; rfl; omega))
             | ((with_reducible (show evOp _ (.call _) _ _ _ _)) ; first | ((with_reducible apply go_len); rfl; rfl) | ((with_reducible apply go_fn_plain); rfl; (exact c_place _); rfl; (exact Nat.le_of_ble_eq_true rfl); rfl) | ((with_reducible apply go_fn_bool); rfl; (exact g); rfl) | ((with_reducible apply go_fn_bool); rfl; (exact c_within _ _ _); rfl))
             | (((with_reducible apply go_not); rfl; rfl))
             | (((with_reducible apply go_pick); rfl; rfl; rfl)))
           | ((with_reducible (show evOps _ _ _ _ _ _)); first
             | (with_reducible apply go_nil)
             | ((with_reducible apply go_run); rfl; rfl))
           | ((with_reducible (show evG _ _ _ _ _)); first
             | (with_reducible apply go_seq)
             | (with_reducible apply go_region)
             | (((with_reducible apply go_cond); rfl) <;> (intro h; simp only [h]; try simp only [decide_eq_true_eq, decide_eq_false_iff_not, Bool.not_eq_true', Bool.not_eq_false', Bool.not_true, Bool.not_false] at h; try exact absurd trivial h))
             | (with_reducible apply go_ret)
             | (with_reducible apply go_skipc)
             | (with_reducible apply go_block)
             | (with_reducible apply go_exit))
           | (with_reducible apply go_kseq)
           | (with_reducible apply go_kseq_ret)
           | (with_reducible apply go_kblock)
           | (with_reducible apply go_kblock_ret)
           | (with_reducible apply go_kblock_exit)
           | (with_reducible apply go_kseq_exit)
           | ((with_reducible apply end_int); rfl)
      all_goals first
        | (exfalso; omega)
        | exact (nodeE_2 (by omega) h2 (by rw [hn, lvOK]; exact decide_eq_false (by simp_all))).symm
        | (refine ⟨h2, fun j hj hj' => ?_, entails_eq (nx := 32) (k := 0) (ns := []) (ks := [5, 3, 0]) [(0, 0)] rfl (by simp) (by kernel_rfl)⟩
           rcases Nat.lt_succ_iff_lt_or_eq.1 hj with h' | rfl
           · exact hC j h' hj'
           · rw [hn, lvOK]; exact decide_eq_true (by simp_all))
        | trace_state
  · have hr := nodeE_r (l := l) (t := t) (by omega) (fun j hj => hC j (by omega) hj)
    have hnum := c_has t l.length (by omega)
    cases hh : hasE l.length t
    · rw [hh] at hnum hr
      rw [hr]
      repeat' first
           | (with_reducible apply go_op)
           | (with_reducible apply go_next)
           | ((with_reducible (show evOp _ _ _ _ _ _)); first
             | ((with_reducible (show evOp _ (.move _) _ _ _ _)) ; first | ((with_reducible apply go_mv_int); rfl; rfl) | ((with_reducible apply go_mv_sl); rfl; rfl))
             | ((with_reducible apply go_as))
             | ((with_reducible (show evOp _ (.load _ _) _ _ _ _)) ; first | ((with_reducible apply go_ld_ptr); rfl; rfl; rfl) | ((with_reducible apply go_ld_agg); rfl; rfl; rfl; rfl))
             | (((with_reducible apply go_index_nat); rfl; rfl; (with_reducible rfl); (intro; rfl); rfl; omega; (intro hlt)))
             | (((with_reducible apply go_cmp); rfl; rfl; rfl; rfl))
             | ((with_reducible (show evOp _ (.call _) _ _ _ _)) ; first | ((with_reducible apply go_len); rfl; rfl) | ((with_reducible apply go_fn_bool); rfl; (exact hnum); rfl))
             | (((with_reducible apply go_not); rfl; rfl)))
           | ((with_reducible (show evOps _ _ _ _ _ _)); first
             | (with_reducible apply go_nil))
           | ((with_reducible (show evG _ _ _ _ _)); first
             | (with_reducible apply go_seq)
             | (with_reducible apply go_region)
             | ((with_reducible apply go_cond_t); rfl; rfl)
             | (((with_reducible apply go_cond); rfl) <;> (intro h; simp only [h]; try simp only [decide_eq_true_eq, decide_eq_false_iff_not, Bool.not_eq_true', Bool.not_eq_false', Bool.not_true, Bool.not_false] at h; try exact absurd trivial h))
             | (with_reducible apply go_ret)
             | (with_reducible apply go_skipc)
             | (with_reducible apply go_block)
             | (with_reducible apply go_exit))
           | (with_reducible apply go_kseq)
           | (with_reducible apply go_kseq_ret)
           | (with_reducible apply go_kblock_exit)
           | (with_reducible apply go_kseq_exit)
           | ((with_reducible apply end_int); rfl)
      all_goals first
        | (exfalso; omega)
        | rfl
        | trace_state
    · rw [hh] at hnum hr
      obtain ⟨q1, q2, q3⟩ := has_bd hh
      have k : ∀ j (hj : j < l.length), ptOK (ptN l[j]) = true := fun j hj => (nd_ok (hC j (by omega) hj)).1
      have hcr := c_rorient (ptN (l[t.a.toNat]'(by omega))) (ptN (l[t.b.toNat]'(by omega))) (ptN (l[t.c.toNat]'(by omega))) (k _ _) (k _ _) (k _ _)
      simp only [← ndI_get (show t.a.toNat < l.length by omega), ← ndI_get (show t.b.toNat < l.length by omega), ← ndI_get (show t.c.toNat < l.length by omega)] at hr
      rw [hr]
      repeat' first
           | (with_reducible apply go_op)
           | (with_reducible apply go_next)
           | ((with_reducible (show evOp _ _ _ _ _ _)); first
             | ((with_reducible (show evOp _ (.move _) _ _ _ _)) ; first | ((with_reducible apply go_mv_int); rfl; rfl) | ((with_reducible apply go_mv_sl); rfl; rfl))
             | ((with_reducible apply go_as))
             | ((with_reducible (show evOp _ (.load _ _) _ _ _ _)) ; first | ((with_reducible apply go_ld_ptr); rfl; rfl; rfl) | ((with_reducible apply go_ld_agg); rfl; rfl; rfl; rfl) | ((with_reducible apply go_load_own); rfl; rfl; rfl; rfl))
             | (((with_reducible apply go_fieldAddr_own); rfl; rfl; rfl))
             | ((with_reducible (show evOp _ (.indexAddr _ _ _) _ _ _ _)) ; first | ((with_reducible apply go_index_nat); rfl; rfl; (with_reducible rfl); (intro; rfl); rfl; omega; (intro hlt)) | ((with_reducible apply go_index); rfl; rfl; (intro; rfl); rfl; omega; intro hlt))
             | (((with_reducible apply go_cmp); rfl; rfl; rfl; rfl))
             | ((with_reducible (show evOp _ (.call _) _ _ _ _)) ; first | ((with_reducible apply go_len); rfl; rfl) | ((with_reducible apply go_fn_bool); rfl; (exact hnum); rfl) | ((with_reducible apply go_fn_plain); rfl; (exact c_place _); rfl; (exact Nat.le_of_ble_eq_true rfl); rfl) | ((with_reducible apply go_fn_int); rfl; (exact hcr); rfl))
             | (((with_reducible apply go_not); rfl; rfl)))
           | ((with_reducible (show evOps _ _ _ _ _ _)); first
             | (with_reducible apply go_nil)
             | ((with_reducible apply go_pre); rfl)
             | (with_reducible apply go_pre_nil)
             | ((with_reducible apply go_suf); rfl)
             | (with_reducible apply go_suf_nil))
           | ((with_reducible (show evG _ _ _ _ _)); first
             | (with_reducible apply go_seq)
             | (with_reducible apply go_region)
             | ((with_reducible apply go_cond_f); rfl; rfl)
             | (((with_reducible apply go_cond); rfl) <;> (intro h; simp only [h]; try simp only [decide_eq_true_eq, decide_eq_false_iff_not, Bool.not_eq_true', Bool.not_eq_false', Bool.not_true, Bool.not_false] at h; try exact absurd trivial h))
             | ((with_reducible apply go_order); kernel_rfl; rfl)
             | (with_reducible apply go_ret)
             | (with_reducible apply go_skipc)
             | (with_reducible apply go_block)
             | (with_reducible apply go_exit))
           | (with_reducible apply go_kseq)
           | (with_reducible apply go_ksuf)
           | (with_reducible apply go_kseq_ret)
           | (with_reducible apply go_kblock_exit)
           | (with_reducible apply go_kseq_exit)
           | ((with_reducible apply end_int); rfl)
      all_goals first
        | (exfalso; omega)
        | (rw [if_neg (by simp), if_pos (sign0.1 (by assumption))])
        | (rw [if_neg (by simp), if_neg (fun h => absurd (sign0.2 h) (by assumption))])
        | trace_state
end Go.Pv.Geo

open Go Go.Proofs Go.Pv
set_option maxHeartbeats 4000000
set_option maxRecDepth 100000
set_option linter.unusedSimpArgs false
set_option linter.unusedVariables false
namespace Go.Pv.Geo
def encN3 (a b c : Nd) : List D := [.int .i64 a.x, .int .i64 a.y, .int .i64 a.lev, .int .i64 b.x, .int .i64 b.y, .int .i64 b.lev, .int .i64 c.x, .int .i64 c.y, .int .i64 c.lev]
def z6 : List D := [.int .i64 0, .int .i64 0, .int .i64 0, .int .i64 0, .int .i64 0, .int .i64 0]
def z9 : List D := [.int .i64 0, .int .i64 0, .int .i64 0, .int .i64 0, .int .i64 0, .int .i64 0, .int .i64 0, .int .i64 0, .int .i64 0]
def preP (a b c : Nd) : Nat → List D
  | 0 => z6
  | 1 => [.int .i64 a.x, .int .i64 a.y, .int .i64 0, .int .i64 0, .int .i64 0, .int .i64 0]
  | 2 => [.int .i64 a.x, .int .i64 a.y, .int .i64 b.x, .int .i64 b.y, .int .i64 0, .int .i64 0]
  | _ => [.int .i64 a.x, .int .i64 a.y, .int .i64 b.x, .int .i64 b.y, .int .i64 c.x, .int .i64 c.y]
/-- The doubled area of three nodes, with its sign. -/
def dblE (l : List Nd) (t : Tri) : Int := crossE (ptN (ndI l t.a)) (ptN (ndI l t.b)) (ptN (ndI l t.c))
def cornD (l : List Nd) (t : Tri) : D := if nodeE l t = 0 ∨ nodeE l t = 10 then .tup [.agg (encN3 (ndI l t.a) (ndI l t.b) (ndI l t.c)), .agg (preP (ndI l t.a) (ndI l t.b) (ndI l t.c) 3), .int .i64 (dblE l t), .int .i64 (nodeE l t)]
  else .tup [.agg z9, .agg z6, .int .i64 0, .int .i64 (nodeE l t)]
theorem corn_bad {l : List Nd} {t : Tri} {e : Int} (h : nodeE l t = e) (h0 : e ≠ 0) (h1 : e ≠ 10) : cornD l t = .tup [.agg z9, .agg z6, .int .i64 0, .int .i64 e] := by
  rw [cornD, if_neg (by omega), h]
theorem fin_tup4 {P : Program} {st : St} {r1 r2 r3 r4 : ResultVar} {d1 d2 d3 d4 : D} (h1 : resD P st r1 = some d1) (h2 : resD P st r2 = some d2) (h3 : resD P st r3 = some d3) (h4 : resD P st r4 = some d4) (p1 : (plainE d1 && Nat.ble (widE d1) 60) = true) (p2 : (plainE d2 && Nat.ble (widE d2) 60) = true) (p3 : (plainE d3 && Nat.ble (widE d3) 60) = true) (p4 : (plainE d4 && Nat.ble (widE d4) 60) = true) :
    finK P [r1, r2, r3, r4] (.ret (.tup [d1, d2, d3, d4])) .ret st := by
  refine ⟨_, rfl, ?_⟩
  simp only [Bool.and_eq_true] at p1 p2 p3 p4
  exact fin2 (ds := [d1, d2, d3, d4]) (by simp [h1, h2, h3, h4]) ⟨pur_plain p1.1 p1.2, pur_plain p2.1 p2.2, pur_plain p3.1 p3.2, pur_plain p4.1 p4.2, trivial⟩ (by simp)
theorem c_corners (l : List Nd) (hl : l.length < 1000000000000) (t : Tri) : Contract Try.prog 92 [.sl (l.map encNd), .agg (encTri t)] (.ret (cornD l t)) := by
  refine contract_of mix Try.func92 rfl rfl (by rw [Try.ntmps92]; exact Nat.le_of_ble_eq_true rfl) ?_; rw [Try.results92, Try.ntmps92]; simp only [argsE, Nat.reduceAdd]
  repeat' first
           | (with_reducible apply go_op)
           | (with_reducible apply go_next)
           | ((with_reducible (show evOp _ _ _ _ _ _)); first
             | ((with_reducible (show evOp _ (.move _) _ _ _ _)) ; first | ((with_reducible apply go_mv_int); rfl; rfl) | ((with_reducible apply go_mv_sl); rfl; rfl))
             | ((with_reducible apply go_as))
             | (((with_reducible apply go_ld_agg); rfl; rfl; rfl; rfl))
             | (((with_reducible apply go_cmp); rfl; rfl; rfl; rfl))
             | (((with_reducible apply go_len); rfl; rfl))
             | (((with_reducible apply go_st_agg); rfl; rfl; rfl; rfl; rfl; rfl; rfl))
             | (((with_reducible apply go_bx_agg); rfl; rfl; (exact Nat.le_of_ble_eq_true rfl); rfl; rfl))
             | (((with_reducible apply go_alloc); rfl; rfl; rfl)))
           | ((with_reducible (show evOps _ _ _ _ _ _)); first
             | (with_reducible apply go_nil)
             | (with_reducible apply go_take)
             | (with_reducible apply go_take0))
           | ((with_reducible (show evG _ _ _ _ _)); first
             | (with_reducible apply go_seq)
             | (with_reducible apply go_region)
             | (((with_reducible apply go_cond); rfl) <;> (intro h; simp only [h]; try simp only [decide_eq_true_eq, decide_eq_false_iff_not, Bool.not_eq_true', Bool.not_eq_false', Bool.not_true, Bool.not_false] at h; try exact absurd trivial h))
             | ((with_reducible apply (go_drawL 2 [[1], [], [], []])); decide +kernel; rfl)
             | (with_reducible apply go_ret)
             | (with_reducible apply go_skipc)
             | (with_reducible apply go_block))
           | (with_reducible apply go_klined)
           | (with_reducible apply go_line_drop)
           | (with_reducible apply go_line_drop0)
           | (with_reducible apply go_line)
           | (with_reducible apply go_line_nil)
           | (with_reducible apply go_kln)
           | (with_reducible apply go_again_nil)
           | ((with_reducible apply go_again); rfl; (intro id'))
           | ((with_reducible apply go_kagain); rfl)
           | (with_reducible apply go_kseq)
           | (with_reducible apply go_kseq_ret)
  · rw [corn_bad (nodeE_8 (by omega)) (by decide) (by decide)]
    exact fin_tup4 (by kernel_rfl) (by kernel_rfl) (by kernel_rfl) (by kernel_rfl) (by kernel_rfl) (by kernel_rfl) (by kernel_rfl) (by kernel_rfl)
  refine go_count l.length (fun i => ⟨[(19, .int .i64 i), (18, .int .i64 l.length), (17, .sl (l.map encNd)), (0, .sl (l.map encNd)), (3, .op 0 0 0), (4, .op 1 0 0), (5, .op 2 0 0), (6, .int .i64 0)], [(0, ⟨3, true, [encTri t]⟩), (1, ⟨9, true, [z9]⟩), (2, ⟨6, true, [z6]⟩)], 32, 89⟩) (fun i => ∀ j (hj : j < i) (hj' : j < l.length), ndOK l[j] = true)
    (entails_eq (nx := 32) (k := 0) (ns := []) (ks := [19, 18, 17, 0, 3, 4, 5, 6]) [(0, 0), (32, 1), (64, 2)] rfl (by simp) (by kernel_rfl)) (by omega) ?_
  intro i hi hC
  by_cases h2 : i < l.length
  · have g := c_outside_1 (ptN l[i])
    cases hp : ptOK (ptN l[i])
    · rw [hp] at g
      have hn : ndOK l[i] = false := by simp [ndOK, hp]
      repeat' first
           | (with_reducible apply go_op)
           | (with_reducible apply go_next)
           | ((with_reducible (show evOp _ _ _ _ _ _)); first
             | ((with_reducible (show evOp _ (.move _) _ _ _ _)) ; first | ((with_reducible apply go_mv_int); rfl; rfl) | ((with_reducible apply go_mv_bool); rfl; rfl) | ((with_reducible apply go_mv_sl); rfl; rfl))
             | ((with_reducible apply go_as))
             | ((with_reducible (show evOp _ (.load _ _) _ _ _ _)) ; first | ((with_reducible apply go_ld_ptr); rfl; rfl; rfl) | ((with_reducible apply go_ld_agg); rfl; rfl; rfl; rfl) | ((with_reducible apply go_load_own); rfl; rfl; rfl; rfl))
             | (((with_reducible apply go_fieldAddr_own); rfl; rfl; rfl))
             | (((with_reducible apply go_index_nat); rfl; rfl; (with_reducible rfl); (intro; rfl); rfl; omega; (intro hlt)))
             | (((with_reducible apply go_cmp); rfl; rfl; rfl; rfl))
             | ((with_reducible (show evOp _ (.call _) _ _ _ _)) ; first | ((with_reducible apply go_len); rfl; rfl) | ((with_reducible apply go_fn_bool); (exact purL_os rfl (by simp) rfl); (exact g); rfl))
             | (((with_reducible apply go_st_agg); rfl; rfl; rfl; rfl; rfl; rfl; rfl))
             | (((with_reducible apply go_pick); rfl; rfl; rfl))
             | (((with_reducible apply go_bd2_int); rfl; rfl; rfl; rfl))
             | (((with_reducible apply go_alloc); rfl; rfl; rfl))
             | (((with_reducible apply go_bs1_agg); rfl; rfl; rfl; rfl; rfl; rfl)))
           | ((with_reducible (show evOps _ _ _ _ _ _)); first
             | (with_reducible apply go_nil)
             | ((with_reducible apply go_pass); rfl; rfl; rfl)
             | (with_reducible apply go_take)
             | (with_reducible apply go_take0))
           | ((with_reducible (show evG _ _ _ _ _)); first
             | (with_reducible apply go_seq)
             | (with_reducible apply go_region)
             | ((with_reducible apply go_cond_t); rfl; rfl)
             | (((with_reducible apply go_cond); rfl) <;> (intro h; simp only [h]; try simp only [decide_eq_true_eq, decide_eq_false_iff_not, Bool.not_eq_true', Bool.not_eq_false', Bool.not_true, Bool.not_false] at h; try exact absurd trivial h))
             | ((with_reducible apply (go_drawL 2 [[1], [], [], []])); decide +kernel; rfl)
             | (with_reducible apply go_ret)
             | (with_reducible apply go_skipc)
             | (with_reducible apply go_block)
             | (with_reducible apply go_exit))
           | (with_reducible apply go_klined)
           | (with_reducible apply go_line_drop)
           | (with_reducible apply go_line_drop0)
           | (with_reducible apply go_line)
           | (with_reducible apply go_line_nil)
           | (with_reducible apply go_kln)
           | (with_reducible apply go_again_nil)
           | ((with_reducible apply go_again); rfl; (intro id'))
           | ((with_reducible apply go_kagain); rfl)
           | (with_reducible apply go_kseq)
           | (with_reducible apply go_kseq_ret)
           | (with_reducible apply go_kblock_ret)
           | (with_reducible apply go_kblock_exit)
           | (with_reducible apply go_kseq_exit)
      · rw [corn_bad (nodeE_2 (by omega) h2 hn) (by decide) (by decide)]
        exact fin_tup4 (by kernel_rfl) (by kernel_rfl) (by kernel_rfl) (by kernel_rfl) (by kernel_rfl) (by kernel_rfl) (by kernel_rfl) (by kernel_rfl)
      · exfalso; omega
    · rw [hp] at g
      have hn : ndOK l[i] = lvOK l[i].lev := by simp [ndOK, hp]
      have g2 := c_leveled l[i].lev
      repeat' first
           | (with_reducible apply go_op)
           | (with_reducible apply go_next)
           | ((with_reducible (show evOp _ _ _ _ _ _)); first
             | ((with_reducible (show evOp _ (.move _) _ _ _ _)) ; first | ((with_reducible apply go_mv_int); rfl; rfl) | ((with_reducible apply go_mv_bool); rfl; rfl) | ((with_reducible apply go_mv_sl); rfl; rfl))
             | ((with_reducible apply go_as))
             | ((with_reducible (show evOp _ (.load _ _) _ _ _ _)) ; first | ((with_reducible apply go_ld_ptr); rfl; rfl; rfl) | ((with_reducible apply go_ld_agg); rfl; rfl; rfl; rfl) | ((with_reducible apply go_load_own); rfl; rfl; rfl; rfl))
             | (((with_reducible apply go_fieldAddr_own); rfl; rfl; rfl))
             | (((with_reducible apply go_index_nat); rfl; rfl; (with_reducible rfl); (intro; rfl); rfl; omega; (intro hlt)))
             | ((with_reducible (show evOp _ (.binOp _ _ _ _ _) _ _ _ _)) ; first | ((with_reducible apply go_cmp); rfl; rfl; rfl; rfl) | ((with_reducible apply go_add); rfl; rfl; rfl; omega))
             | ((with_reducible (show evOp _ (.call _) _ _ _ _)) ; first | ((with_reducible apply go_len); rfl; rfl) | ((with_reducible apply go_fn_bool); (exact purL_os rfl (by simp) rfl); (exact g); rfl) | ((with_reducible apply go_fn_bool); rfl; (exact g2); rfl))
             | (((with_reducible apply go_st_agg); rfl; rfl; rfl; rfl; rfl; rfl; rfl))
             | (((with_reducible apply go_not); rfl; rfl))
             | (((with_reducible apply go_pick); rfl; rfl; rfl))
             | (((with_reducible apply go_bd2_int); rfl; rfl; rfl; rfl))
             | (((with_reducible apply go_alloc); rfl; rfl; rfl))
             | (((with_reducible apply go_bs1_agg); rfl; rfl; rfl; rfl; rfl; rfl)))
           | ((with_reducible (show evOps _ _ _ _ _ _)); first
             | (with_reducible apply go_nil)
             | ((with_reducible apply go_run); rfl; rfl)
             | (with_reducible apply go_take)
             | (with_reducible apply go_take0))
           | ((with_reducible (show evG _ _ _ _ _)); first
             | (with_reducible apply go_seq)
             | (with_reducible apply go_region)
             | (((with_reducible apply go_cond); rfl) <;> (intro h; simp only [h]; try simp only [decide_eq_true_eq, decide_eq_false_iff_not, Bool.not_eq_true', Bool.not_eq_false', Bool.not_true, Bool.not_false] at h; try exact absurd trivial h))
             | ((with_reducible apply (go_drawL 2 [[1], [], [], []])); decide +kernel; rfl)
             | (with_reducible apply go_ret)
             | (with_reducible apply go_skipc)
             | (with_reducible apply go_block)
             | (with_reducible apply go_exit))
           | (with_reducible apply go_klined)
           | (with_reducible apply go_line_drop)
           | (with_reducible apply go_line_drop0)
           | (with_reducible apply go_line)
           | (with_reducible apply go_line_nil)
           | (with_reducible apply go_kln)
           | (with_reducible apply go_again_nil)
           | ((with_reducible apply go_again); rfl; (intro id'))
           | ((with_reducible apply go_kagain); rfl)
           | (with_reducible apply go_kseq)
           | (with_reducible apply go_kseq_ret)
           | (with_reducible apply go_kblock)
           | (with_reducible apply go_kblock_ret)
           | (with_reducible apply go_kblock_exit)
           | (with_reducible apply go_kseq_exit)
      · rw [corn_bad (nodeE_2 (by omega) h2 (by rw [hn]; assumption)) (by decide) (by decide)]
        exact fin_tup4 (by kernel_rfl) (by kernel_rfl) (by kernel_rfl) (by kernel_rfl) (by kernel_rfl) (by kernel_rfl) (by kernel_rfl) (by kernel_rfl)
      · refine ⟨h2, fun j hj hj' => ?_, entails_eq (nx := 32) (k := 0) (ns := []) (ks := [19, 18, 17, 0, 3, 4, 5, 6]) [(0, 0), (1, 1), (2, 2)] rfl (by simp) (by kernel_rfl)⟩
        rcases Nat.lt_succ_iff_lt_or_eq.1 hj with h' | rfl
        · exact hC j h' hj'
        · rw [hn]; assumption
      · exfalso; omega
  have hr := nodeE_r (l := l) (t := t) (by omega) (fun j hj => hC j (by omega) hj)
  have hnum := c_numbered t l.length
  cases hh : hasE l.length t
  · rw [hh] at hnum hr
    rw [if_pos rfl] at hr
    repeat' first
           | (with_reducible apply go_op)
           | (with_reducible apply go_next)
           | ((with_reducible (show evOp _ _ _ _ _ _)); first
             | ((with_reducible (show evOp _ (.move _) _ _ _ _)) ; first | ((with_reducible apply go_mv_int); rfl; rfl) | ((with_reducible apply go_mv_sl); rfl; rfl))
             | ((with_reducible apply go_as))
             | ((with_reducible (show evOp _ (.load _ _) _ _ _ _)) ; first | ((with_reducible apply go_ld_ptr); rfl; rfl; rfl) | ((with_reducible apply go_ld_agg); rfl; rfl; rfl; rfl) | ((with_reducible apply go_load_own); rfl; rfl; rfl; rfl))
             | (((with_reducible apply go_fieldAddr_own); rfl; rfl; rfl))
             | (((with_reducible apply go_index_nat); rfl; rfl; (with_reducible rfl); (intro; rfl); rfl; omega; (intro hlt)))
             | (((with_reducible apply go_cmp); rfl; rfl; rfl; rfl))
             | ((with_reducible (show evOp _ (.call _) _ _ _ _)) ; first | ((with_reducible apply go_len); rfl; rfl) | ((with_reducible apply go_fn_bool); rfl; (exact hnum); rfl))
             | (((with_reducible apply go_st_agg); rfl; rfl; rfl; rfl; rfl; rfl; rfl))
             | (((with_reducible apply go_not); rfl; rfl))
             | (((with_reducible apply go_bd2_int); rfl; rfl; rfl; rfl))
             | (((with_reducible apply go_alloc); rfl; rfl; rfl))
             | (((with_reducible apply go_bs1_agg); rfl; rfl; rfl; rfl; rfl; rfl)))
           | ((with_reducible (show evOps _ _ _ _ _ _)); first
             | (with_reducible apply go_nil)
             | (with_reducible apply go_take)
             | (with_reducible apply go_take0))
           | ((with_reducible (show evG _ _ _ _ _)); first
             | (with_reducible apply go_seq)
             | (with_reducible apply go_region)
             | ((with_reducible apply go_cond_t); rfl; rfl)
             | (((with_reducible apply go_cond); rfl) <;> (intro h; simp only [h]; try simp only [decide_eq_true_eq, decide_eq_false_iff_not, Bool.not_eq_true', Bool.not_eq_false', Bool.not_true, Bool.not_false] at h; try exact absurd trivial h))
             | ((with_reducible apply (go_drawL 2 [[1], [], [], []])); decide +kernel; rfl)
             | (with_reducible apply go_ret)
             | (with_reducible apply go_skipc)
             | (with_reducible apply go_block)
             | (with_reducible apply go_exit))
           | (with_reducible apply go_klined)
           | (with_reducible apply go_line_drop)
           | (with_reducible apply go_line_drop0)
           | (with_reducible apply go_line)
           | (with_reducible apply go_line_nil)
           | (with_reducible apply go_kln)
           | (with_reducible apply go_again_nil)
           | ((with_reducible apply go_again); rfl; (intro id'))
           | ((with_reducible apply go_kagain); rfl)
           | (with_reducible apply go_kseq)
           | (with_reducible apply go_kseq_ret)
           | (with_reducible apply go_kblock_exit)
           | (with_reducible apply go_kseq_exit)
    · exfalso; omega
    · rw [corn_bad hr (by decide) (by decide)]
      exact fin_tup4 (by kernel_rfl) (by kernel_rfl) (by kernel_rfl) (by kernel_rfl) (by kernel_rfl) (by kernel_rfl) (by kernel_rfl) (by kernel_rfl)
  rw [hh] at hnum hr
  rw [if_neg (by simp)] at hr
  obtain ⟨q1, q2, q3⟩ := has_bd hh
  have k : ∀ j (hj : j < l.length), ptOK (ptN l[j]) = true := fun j hj => (nd_ok (hC j (by omega) hj)).1
  have hcr := c_cross (ptN (l[t.a.toNat]'(by omega))) (ptN (l[t.b.toNat]'(by omega))) (ptN (l[t.c.toNat]'(by omega))) (k _ _) (k _ _) (k _ _)
  have hD : cornD l t = .tup [.agg (encN3 (l[t.a.toNat]'(by omega)) (l[t.b.toNat]'(by omega)) (l[t.c.toNat]'(by omega))), .agg (preP (l[t.a.toNat]'(by omega)) (l[t.b.toNat]'(by omega)) (l[t.c.toNat]'(by omega)) 3), .int .i64 (crossE (ptN (l[t.a.toNat]'(by omega))) (ptN (l[t.b.toNat]'(by omega))) (ptN (l[t.c.toNat]'(by omega)))), .int .i64 (nodeE l t)] := by
    rw [cornD, if_pos (by rw [hr]; split <;> simp), dblE]
    simp only [ndI_get]
  rw [hD]
  simp only [← ndI_get (show t.a.toNat < l.length by omega), ← ndI_get (show t.b.toNat < l.length by omega), ← ndI_get (show t.c.toNat < l.length by omega)] at hr
  repeat' first
           | (with_reducible apply go_op)
           | (with_reducible apply go_next)
           | ((with_reducible (show evOp _ _ _ _ _ _)); first
             | ((with_reducible (show evOp _ (.move _) _ _ _ _)) ; first | ((with_reducible apply go_mv_int); rfl; rfl) | ((with_reducible apply go_mv_sl); rfl; rfl))
             | ((with_reducible (show evOp _ (.load _ _) _ _ _ _)) ; first | ((with_reducible apply go_ld_ptr); rfl; rfl; rfl) | ((with_reducible apply go_ld_agg); rfl; rfl; rfl; rfl) | ((with_reducible apply go_load_own); rfl; rfl; rfl; rfl))
             | (((with_reducible apply go_fieldAddr_own); rfl; rfl; rfl))
             | ((with_reducible (show evOp _ (.indexAddr _ _ _) _ _ _ _)) ; first | ((with_reducible apply go_index_nat); rfl; rfl; (with_reducible rfl); (intro; rfl); rfl; omega; (intro hlt)) | ((with_reducible apply go_index); rfl; rfl; (intro; rfl); rfl; omega; intro hlt))
             | (((with_reducible apply go_cmp); rfl; rfl; rfl; rfl))
             | ((with_reducible (show evOp _ (.call _) _ _ _ _)) ; first | ((with_reducible apply go_len); rfl; rfl) | ((with_reducible apply go_fn_bool); rfl; (exact hnum); rfl))
             | (((with_reducible apply go_st_agg); rfl; rfl; rfl; rfl; rfl; rfl; rfl))
             | (((with_reducible apply go_not); rfl; rfl))
             | ((with_reducible (show evOp _ (.build _ _) _ _ _ _)) ; first | ((with_reducible apply go_bd2_int); rfl; rfl; rfl; rfl) | ((with_reducible apply go_build); rfl; rfl))
             | (((with_reducible apply go_alloc); rfl; rfl; rfl))
             | (((with_reducible apply go_bs1_agg); rfl; rfl; rfl; rfl; rfl; rfl)))
           | ((with_reducible (show evOps _ _ _ _ _ _)); first
             | (with_reducible apply go_nil)
             | ((with_reducible apply go_pre); rfl)
             | ((with_reducible apply go_pre_stop); rfl)
             | ((with_reducible apply go_suf); rfl)
             | ((with_reducible apply go_suf_stop); rfl))
           | ((with_reducible (show evG _ _ _ _ _)); first
             | (with_reducible apply go_seq)
             | (with_reducible apply go_region)
             | ((with_reducible apply go_cond_f); rfl; rfl)
             | (((with_reducible apply go_cond); rfl) <;> (intro h; simp only [h]; try simp only [decide_eq_true_eq, decide_eq_false_iff_not, Bool.not_eq_true', Bool.not_eq_false', Bool.not_true, Bool.not_false] at h; try exact absurd trivial h))
             | ((with_reducible apply go_order); kernel_rfl; rfl)
             | (with_reducible apply go_skipc)
             | (with_reducible apply go_block)
             | (with_reducible apply go_exit))
           | (with_reducible apply go_kseq)
           | (with_reducible apply go_ksuf)
           | (with_reducible apply go_kblock_exit)
           | (with_reducible apply go_kseq_exit)
  · exfalso; omega
  generalize l[t.a.toNat]'(by omega) = a at *
  generalize l[t.b.toNat]'(by omega) = b at *
  generalize l[t.c.toNat]'(by omega) = c at *
  refine go_count 3 (fun i => ⟨[(63, .int .i64 i), (62, .agg (encN3 a b c)), (4, .op 1 0 0), (5, .op 2 0 0), (6, .int .i64 0)], [(1, ⟨9, true, [encN3 a b c]⟩), (2, ⟨6, true, [preP a b c i]⟩)], 32, 89⟩) (fun _ => True)
    (entails_eq (nx := 32) (k := 0) (ns := []) (ks := [63, 62, 4, 5, 6]) [(1, 1), (2, 2)] rfl (by simp) (by kernel_rfl)) trivial ?_
  clear hC hnum k hD
  intro i hi hC
  have hc3 : i = 0 ∨ i = 1 ∨ i = 2 ∨ i = 3 := by omega
  rcases hc3 with rfl | rfl | rfl | rfl
  · repeat' first
           | (with_reducible apply go_op)
           | (with_reducible apply go_next)
           | ((with_reducible (show evOp _ _ _ _ _ _)); first
             | (((with_reducible apply go_mv_int); rfl; rfl))
             | ((with_reducible apply go_as))
             | (((with_reducible apply go_load_own); rfl; rfl; rfl; rfl))
             | (((with_reducible apply go_fieldAddr_own); rfl; rfl; rfl))
             | (((with_reducible apply go_index_arr); rfl; rfl; rfl; rfl; omega))
             | ((with_reducible (show evOp _ (.binOp _ _ _ _ _) _ _ _ _)) ; first | ((with_reducible apply go_cmp); rfl; rfl; rfl; rfl) | ((with_reducible apply go_add); rfl; rfl; rfl; omega))
             | ((with_reducible (show evOp _ (.store _ _ _) _ _ _ _)) ; first | ((with_reducible apply go_st_agg); rfl; rfl; rfl; rfl; rfl; rfl; rfl) | ((with_reducible apply go_store); rfl; rfl; rfl; rfl; rfl; rfl; (exact Nat.le_of_ble_eq_true rfl); (first | exact Nat.le_of_ble_eq_true rfl | omega); rfl; rfl))
             | (((with_reducible apply go_index_agg); rfl; rfl; rfl; omega; rfl))
             | (((with_reducible apply go_bd2_int); rfl; rfl; rfl; rfl))
             | (((with_reducible apply go_alloc); rfl; rfl; rfl)))
           | ((with_reducible (show evOps _ _ _ _ _ _)); first
             | (with_reducible apply go_nil))
           | ((with_reducible (show evG _ _ _ _ _)); first
             | (with_reducible apply go_seq)
             | (with_reducible apply go_region)
             | ((with_reducible apply go_cond_t); rfl; rfl)
             | (with_reducible apply go_skipc)
             | (with_reducible apply go_block))
           | (with_reducible apply go_kseq)
           | (with_reducible apply go_kblock)
    exact ⟨by omega, trivial, entails_eq (nx := 32) (k := 0) (ns := []) (ks := [63, 62, 4, 5, 6]) [(1, 1), (2, 2)] rfl (by simp) (by kernel_rfl)⟩
  · repeat' first
           | (with_reducible apply go_op)
           | (with_reducible apply go_next)
           | ((with_reducible (show evOp _ _ _ _ _ _)); first
             | (((with_reducible apply go_mv_int); rfl; rfl))
             | ((with_reducible apply go_as))
             | (((with_reducible apply go_load_own); rfl; rfl; rfl; rfl))
             | (((with_reducible apply go_fieldAddr_own); rfl; rfl; rfl))
             | (((with_reducible apply go_index_arr); rfl; rfl; rfl; rfl; omega))
             | ((with_reducible (show evOp _ (.binOp _ _ _ _ _) _ _ _ _)) ; first | ((with_reducible apply go_cmp); rfl; rfl; rfl; rfl) | ((with_reducible apply go_add); rfl; rfl; rfl; omega))
             | ((with_reducible (show evOp _ (.store _ _ _) _ _ _ _)) ; first | ((with_reducible apply go_st_agg); rfl; rfl; rfl; rfl; rfl; rfl; rfl) | ((with_reducible apply go_store); rfl; rfl; rfl; rfl; rfl; rfl; (exact Nat.le_of_ble_eq_true rfl); (first | exact Nat.le_of_ble_eq_true rfl | omega); rfl; rfl))
             | (((with_reducible apply go_index_agg); rfl; rfl; rfl; omega; rfl))
             | (((with_reducible apply go_bd2_int); rfl; rfl; rfl; rfl))
             | (((with_reducible apply go_alloc); rfl; rfl; rfl)))
           | ((with_reducible (show evOps _ _ _ _ _ _)); first
             | (with_reducible apply go_nil))
           | ((with_reducible (show evG _ _ _ _ _)); first
             | (with_reducible apply go_seq)
             | (with_reducible apply go_region)
             | ((with_reducible apply go_cond_t); rfl; rfl)
             | (with_reducible apply go_skipc)
             | (with_reducible apply go_block))
           | (with_reducible apply go_kseq)
           | (with_reducible apply go_kblock)
    exact ⟨by omega, trivial, entails_eq (nx := 32) (k := 0) (ns := []) (ks := [63, 62, 4, 5, 6]) [(1, 1), (2, 2)] rfl (by simp) (by kernel_rfl)⟩
  · repeat' first
           | (with_reducible apply go_op)
           | (with_reducible apply go_next)
           | ((with_reducible (show evOp _ _ _ _ _ _)); first
             | (((with_reducible apply go_mv_int); rfl; rfl))
             | ((with_reducible apply go_as))
             | (((with_reducible apply go_load_own); rfl; rfl; rfl; rfl))
             | (((with_reducible apply go_fieldAddr_own); rfl; rfl; rfl))
             | (((with_reducible apply go_index_arr); rfl; rfl; rfl; rfl; omega))
             | ((with_reducible (show evOp _ (.binOp _ _ _ _ _) _ _ _ _)) ; first | ((with_reducible apply go_cmp); rfl; rfl; rfl; rfl) | ((with_reducible apply go_add); rfl; rfl; rfl; omega))
             | ((with_reducible (show evOp _ (.store _ _ _) _ _ _ _)) ; first | ((with_reducible apply go_st_agg); rfl; rfl; rfl; rfl; rfl; rfl; rfl) | ((with_reducible apply go_store); rfl; rfl; rfl; rfl; rfl; rfl; (exact Nat.le_of_ble_eq_true rfl); (first | exact Nat.le_of_ble_eq_true rfl | omega); rfl; rfl))
             | (((with_reducible apply go_index_agg); rfl; rfl; rfl; omega; rfl))
             | (((with_reducible apply go_bd2_int); rfl; rfl; rfl; rfl))
             | (((with_reducible apply go_alloc); rfl; rfl; rfl)))
           | ((with_reducible (show evOps _ _ _ _ _ _)); first
             | (with_reducible apply go_nil))
           | ((with_reducible (show evG _ _ _ _ _)); first
             | (with_reducible apply go_seq)
             | (with_reducible apply go_region)
             | ((with_reducible apply go_cond_t); rfl; rfl)
             | (with_reducible apply go_skipc)
             | (with_reducible apply go_block))
           | (with_reducible apply go_kseq)
           | (with_reducible apply go_kblock)
    exact ⟨by omega, trivial, entails_eq (nx := 32) (k := 0) (ns := []) (ks := [63, 62, 4, 5, 6]) [(1, 1), (2, 2)] rfl (by simp) (by kernel_rfl)⟩
  · have hcr' : Contract Try.prog 87 [.agg [.int .i64 a.x, .int .i64 a.y], .agg [.int .i64 b.x, .int .i64 b.y], .agg [.int .i64 c.x, .int .i64 c.y]] (.ret (.int .i64 (crossE (ptN a) (ptN b) (ptN c)))) := hcr
    repeat' first
           | (with_reducible apply go_op)
           | (with_reducible apply go_next)
           | ((with_reducible (show evOp _ _ _ _ _ _)); first
             | (((with_reducible apply go_mv_int); rfl; rfl))
             | ((with_reducible apply go_as))
             | ((with_reducible (show evOp _ (.load _ _) _ _ _ _)) ; first | ((with_reducible apply go_ld_agg); rfl; rfl; rfl; rfl) | ((with_reducible apply go_load_own); rfl; rfl; rfl; rfl))
             | (((with_reducible apply go_index_arr); rfl; rfl; rfl; rfl; omega))
             | (((with_reducible apply go_cmp); rfl; rfl; rfl; rfl))
             | (((with_reducible apply go_fn_int); rfl; (exact hcr'); rfl))
             | (((with_reducible apply go_st_agg); rfl; rfl; rfl; rfl; rfl; rfl; rfl)))
           | ((with_reducible (show evOps _ _ _ _ _ _)); first
             | (with_reducible apply go_nil)
             | (with_reducible apply go_take)
             | (with_reducible apply go_take0))
           | ((with_reducible (show evG _ _ _ _ _)); first
             | (with_reducible apply go_seq)
             | (with_reducible apply go_region)
             | ((with_reducible apply go_cond_f); rfl; rfl)
             | (((with_reducible apply go_cond); rfl) <;> (intro h; simp only [h]; try simp only [decide_eq_true_eq, decide_eq_false_iff_not, Bool.not_eq_true', Bool.not_eq_false', Bool.not_true, Bool.not_false] at h; try exact absurd trivial h))
             | ((with_reducible apply (go_drawL 2 [[1], [], [], []])); decide +kernel; rfl)
             | ((with_reducible apply (go_drawL 3 [[1, 2], [2], [], []])); decide +kernel; rfl)
             | (with_reducible apply go_ret)
             | (with_reducible apply go_skipc)
             | (with_reducible apply go_exit))
           | (with_reducible apply go_klined)
           | (with_reducible apply go_line_drop)
           | (with_reducible apply go_line_drop0)
           | (with_reducible apply go_line)
           | (with_reducible apply go_line_nil)
           | (with_reducible apply go_kln)
           | (with_reducible apply go_again_nil)
           | ((with_reducible apply go_again); rfl; (intro id'))
           | ((with_reducible apply go_kagain); rfl)
           | (with_reducible apply go_kseq)
           | (with_reducible apply go_kseq_ret)
           | (with_reducible apply go_kblock_exit)
           | (with_reducible apply go_kseq_exit)
    · have hz : crossE (ptN a) (ptN b) (ptN c) = 0 := by assumption
      rw [hr, if_pos hz, hz]
      exact fin_tup4 (by kernel_rfl) (by kernel_rfl) (by kernel_rfl) (by kernel_rfl) (by kernel_rfl) (by kernel_rfl) (by kernel_rfl) (by kernel_rfl)
    · rw [hr, if_neg (by assumption)]
      exact fin_tup4 (by kernel_rfl) (by kernel_rfl) (by kernel_rfl) (by kernel_rfl) (by kernel_rfl) (by kernel_rfl) (by kernel_rfl) (by kernel_rfl)
end Go.Pv.Geo

open Go Go.Proofs Go.Pv
set_option maxHeartbeats 4000000
set_option maxRecDepth 100000
set_option linter.unusedSimpArgs false
set_option linter.unusedVariables false
namespace Go.Pv.Geo
theorem node_c {l : List Nd} {t : Tri} (h : nodeE l t = 0) : crossE (ptN (ndI l t.a)) (ptN (ndI l t.b)) (ptN (ndI l t.c)) ≠ 0 := by
  unfold nodeE at h
  (repeat' split at h) <;> first | (cases h; done) | assumption
/-- The sum of the levels, each by the doubled area across from it. -/
def detN (l : List Nd) (t : Tri) (p : Pt) : Int :=
  (ndI l t.a).lev * crossE (ptN (ndI l t.b)) (ptN (ndI l t.c)) p + (ndI l t.b).lev * crossE (ptN (ndI l t.c)) (ptN (ndI l t.a)) p + (ndI l t.c).lev * crossE (ptN (ndI l t.a)) (ptN (ndI l t.b)) p
def levelD (l : List Nd) (t : Tri) (p : Pt) : D := .agg [.int .i64 (lowE (detN l t p) (dblE l t)).1, .int .i64 (lowE (detN l t p) (dblE l t)).2]
def levelR (l : List Nd) (t : Tri) (p : Pt) : D := if nodeE l t = 0 then (if ptOK p = true then .tup [levelD l t p, .int .i64 0] else .tup [.agg [.int .i64 0, .int .i64 0], .int .i64 2]) else .tup [.agg [.int .i64 0, .int .i64 0], .int .i64 (nodeE l t)]
def detT (u v w : Int) : Nat → Int
  | 0 => 0
  | 1 => 0 + u
  | 2 => 0 + u + v
  | _ => 0 + u + v + w
theorem lev_mul {u v : Int} (hu : -20000 ≤ u ∧ u ≤ 20000) (hv : -8000000000000 ≤ v ∧ v ≤ 8000000000000) : -160000000000000000 ≤ u * v ∧ u * v ≤ 160000000000000000 := by
  have := mul_abs hu hv; omega
theorem c_Level (l : List Nd) (hl : l.length < 1000000000000) (t : Tri) (p : Pt) : Contract Try.prog 48 [.sl (l.map encNd), .agg (encTri t), .agg (encPt p)] (.ret (levelR l t p)) := by
  have hC := c_corners l hl t
  by_cases hz : nodeE l t = 0
  rotate_left
  · rw [levelR, if_neg hz]
    by_cases hz2 : nodeE l t = 10
    · rw [cornD, if_pos (.inr hz2), hz2] at hC
      rw [hz2]
      refine contract_of mix Try.func48 rfl rfl (by rw [Try.ntmps48]; exact Nat.le_of_ble_eq_true rfl) ?_; rw [Try.results48, Try.ntmps48]; simp only [argsE, Nat.reduceAdd]
      repeat' first
           | (with_reducible apply go_op)
           | (with_reducible apply go_next)
           | ((with_reducible (show evOp _ _ _ _ _ _)); first
             | ((with_reducible (show evOp _ (.move _) _ _ _ _)) ; first | ((with_reducible apply go_mv_int); rfl; rfl) | ((with_reducible apply go_mv_sl); rfl; rfl) | ((with_reducible apply go_mv_tup); rfl; rfl))
             | ((with_reducible apply go_as))
             | (((with_reducible apply go_ld_agg); rfl; rfl; rfl; rfl))
             | (((with_reducible apply go_cmp); rfl; rfl; rfl; rfl))
             | (((with_reducible apply go_fn_plain); rfl; (exact hC); rfl; (exact Nat.le_of_ble_eq_true rfl); rfl))
             | (((with_reducible apply go_st_agg); rfl; rfl; rfl; rfl; rfl; rfl; rfl))
             | (((with_reducible apply go_extract); rfl; rfl))
             | (((with_reducible apply go_build); rfl; rfl))
             | (((with_reducible apply go_bx_agg); rfl; rfl; (exact Nat.le_of_ble_eq_true rfl); rfl; rfl))
             | (((with_reducible apply go_alloc); rfl; rfl; rfl)))
           | ((with_reducible (show evOps _ _ _ _ _ _)); first
             | (with_reducible apply go_nil))
           | ((with_reducible (show evG _ _ _ _ _)); first
             | (with_reducible apply go_seq)
             | (with_reducible apply go_region)
             | ((with_reducible apply go_cond_t); rfl; rfl)
             | (with_reducible apply go_ret))
           | (with_reducible apply go_kseq)
           | (with_reducible apply go_kseq_ret)
           | ((with_reducible apply end_t2); rfl; rfl; rfl; rfl)
      all_goals first
        | (exfalso; omega)
        | rfl
    · rw [cornD, if_neg (by omega)] at hC
      refine contract_of mix Try.func48 rfl rfl (by rw [Try.ntmps48]; exact Nat.le_of_ble_eq_true rfl) ?_; rw [Try.results48, Try.ntmps48]; simp only [argsE, Nat.reduceAdd]
      repeat' first
           | (with_reducible apply go_op)
           | (with_reducible apply go_next)
           | ((with_reducible (show evOp _ _ _ _ _ _)); first
             | ((with_reducible (show evOp _ (.move _) _ _ _ _)) ; first | ((with_reducible apply go_mv_int); rfl; rfl) | ((with_reducible apply go_mv_sl); rfl; rfl) | ((with_reducible apply go_mv_tup); rfl; rfl))
             | ((with_reducible apply go_as))
             | (((with_reducible apply go_ld_agg); rfl; rfl; rfl; rfl))
             | (((with_reducible apply go_cmp); rfl; rfl; rfl; rfl))
             | (((with_reducible apply go_fn_plain); rfl; (exact hC); rfl; (exact Nat.le_of_ble_eq_true rfl); rfl))
             | (((with_reducible apply go_st_agg); rfl; rfl; rfl; rfl; rfl; rfl; rfl))
             | (((with_reducible apply go_extract); rfl; rfl))
             | (((with_reducible apply go_build); rfl; rfl))
             | (((with_reducible apply go_bx_agg); rfl; rfl; (exact Nat.le_of_ble_eq_true rfl); rfl; rfl))
             | (((with_reducible apply go_alloc); rfl; rfl; rfl))
             | (((with_reducible apply go_bs1_agg); rfl; rfl; rfl; rfl; rfl; rfl)))
           | ((with_reducible (show evOps _ _ _ _ _ _)); first
             | (with_reducible apply go_nil))
           | ((with_reducible (show evG _ _ _ _ _)); first
             | (with_reducible apply go_seq)
             | (with_reducible apply go_region)
             | (((with_reducible apply go_cond); rfl) <;> (intro h; simp only [h]; try simp only [decide_eq_true_eq, decide_eq_false_iff_not, Bool.not_eq_true', Bool.not_eq_false', Bool.not_true, Bool.not_false] at h; try exact absurd trivial h))
             | (with_reducible apply go_ret)
             | (with_reducible apply go_skipc))
           | (with_reducible apply go_kseq)
           | (with_reducible apply go_kseq_ret)
           | ((with_reducible apply end_t2); rfl; rfl; rfl; rfl)
      all_goals first
        | (exfalso; omega)
        | rfl
  obtain ⟨h64, hok, hh⟩ := node_ok (.inl hz)
  obtain ⟨q1, q2, q3⟩ := has_bd hh
  rw [cornD, if_pos (.inl hz), hz] at hC
  have hnz := node_c hz
  have ka := nd_ok (hok _ (ndI_mem q1))
  have kb := nd_ok (hok _ (ndI_mem q2))
  have kc := nd_ok (hok _ (ndI_mem q3))
  have ho := c_outside_1 p
  rw [levelR, if_pos hz]
  cases hp : ptOK p
  · rw [hp] at ho
    refine contract_of mix Try.func48 rfl rfl (by rw [Try.ntmps48]; exact Nat.le_of_ble_eq_true rfl) ?_; rw [Try.results48, Try.ntmps48]; simp only [argsE, Nat.reduceAdd]
    repeat' first
           | (with_reducible apply go_op)
           | (with_reducible apply go_next)
           | ((with_reducible (show evOp _ _ _ _ _ _)); first
             | ((with_reducible (show evOp _ (.move _) _ _ _ _)) ; first | ((with_reducible apply go_mv_int); rfl; rfl) | ((with_reducible apply go_mv_sl); rfl; rfl) | ((with_reducible apply go_mv_tup); rfl; rfl))
             | ((with_reducible apply go_as))
             | (((with_reducible apply go_ld_agg); rfl; rfl; rfl; rfl))
             | (((with_reducible apply go_cmp); rfl; rfl; rfl; rfl))
             | ((with_reducible (show evOp _ (.call _) _ _ _ _)) ; first | ((with_reducible apply go_fn_plain); rfl; (exact hC); rfl; (exact Nat.le_of_ble_eq_true rfl); rfl) | ((with_reducible apply go_fn_bool); (exact purL_os rfl (by simp) rfl); (exact ho); rfl))
             | (((with_reducible apply go_st_agg); rfl; rfl; rfl; rfl; rfl; rfl; rfl))
             | (((with_reducible apply go_extract); rfl; rfl))
             | (((with_reducible apply go_build); rfl; rfl))
             | (((with_reducible apply go_bx_agg); rfl; rfl; (exact Nat.le_of_ble_eq_true rfl); rfl; rfl))
             | (((with_reducible apply go_alloc); rfl; rfl; rfl))
             | (((with_reducible apply go_bs1_agg); rfl; rfl; rfl; rfl; rfl; rfl)))
           | ((with_reducible (show evOps _ _ _ _ _ _)); first
             | (with_reducible apply go_nil))
           | ((with_reducible (show evG _ _ _ _ _)); first
             | (with_reducible apply go_seq)
             | (with_reducible apply go_region)
             | ((with_reducible apply go_cond_t); rfl; rfl)
             | ((with_reducible apply go_cond_f); rfl; rfl)
             | (with_reducible apply go_ret)
             | (with_reducible apply go_skipc))
           | (with_reducible apply go_kseq)
           | (with_reducible apply go_kseq_ret)
           | ((with_reducible apply end_t2); rfl; rfl; rfl; rfl)
    all_goals rfl
  rw [hp] at ho
  rw [if_pos rfl, levelD, detN, dblE]
  rw [dblE] at hC
  generalize ndI l t.a = a at *
  generalize ndI l t.b = b at *
  generalize ndI l t.c = c at *
  have x1 := c_cross (ptN b) (ptN c) p kb.1 kc.1 hp
  have x2 := c_cross (ptN c) (ptN a) p kc.1 ka.1 hp
  have x3 := c_cross (ptN a) (ptN b) p ka.1 kb.1 hp
  have y0 := crossE_bd ka.1 kb.1 kc.1
  have y1 := lev_mul (lv_bd ka.2) (crossE_bd kb.1 kc.1 hp)
  have y2 := lev_mul (lv_bd kb.2) (crossE_bd kc.1 ka.1 hp)
  have y3 := lev_mul (lv_bd kc.2) (crossE_bd ka.1 kb.1 hp)
  generalize crossE (ptN b) (ptN c) p = u at *
  generalize crossE (ptN c) (ptN a) p = v at *
  generalize crossE (ptN a) (ptN b) p = w at *
  generalize crossE (ptN a) (ptN b) (ptN c) = e at *
  have hlow : Contract Try.prog 93 [.int .i64 (0 + a.lev * u + b.lev * v + c.lev * w), .int .i64 e] (.ret (.agg [.int .i64 (lowE (a.lev * u + b.lev * v + c.lev * w) e).1, .int .i64 (lowE (a.lev * u + b.lev * v + c.lev * w) e).2])) := by
    rw [Int.zero_add]
    exact c_lowest (a.lev * u + b.lev * v + c.lev * w) e (by omega) (by omega) hnz
  have x1' : Contract Try.prog 87 [.agg [.int .i64 b.x, .int .i64 b.y], .agg [.int .i64 c.x, .int .i64 c.y], .agg (encPt p)] (.ret (.int .i64 u)) := x1
  have x2' : Contract Try.prog 87 [.agg [.int .i64 c.x, .int .i64 c.y], .agg [.int .i64 a.x, .int .i64 a.y], .agg (encPt p)] (.ret (.int .i64 v)) := x2
  have x3' : Contract Try.prog 87 [.agg [.int .i64 a.x, .int .i64 a.y], .agg [.int .i64 b.x, .int .i64 b.y], .agg (encPt p)] (.ret (.int .i64 w)) := x3
  refine contract_of mix Try.func48 rfl rfl (by rw [Try.ntmps48]; exact Nat.le_of_ble_eq_true rfl) ?_; rw [Try.results48, Try.ntmps48]; simp only [argsE, Nat.reduceAdd]
  repeat' first
           | (with_reducible apply go_op)
           | (with_reducible apply go_next)
           | ((with_reducible (show evOp _ _ _ _ _ _)); first
             | ((with_reducible (show evOp _ (.move _) _ _ _ _)) ; first | ((with_reducible apply go_mv_int); rfl; rfl) | ((with_reducible apply go_mv_sl); rfl; rfl) | ((with_reducible apply go_mv_tup); rfl; rfl))
             | ((with_reducible apply go_as))
             | (((with_reducible apply go_ld_agg); rfl; rfl; rfl; rfl))
             | (((with_reducible apply go_cmp); rfl; rfl; rfl; rfl))
             | ((with_reducible (show evOp _ (.call _) _ _ _ _)) ; first | ((with_reducible apply go_fn_plain); rfl; (exact hC); rfl; (exact Nat.le_of_ble_eq_true rfl); rfl) | ((with_reducible apply go_fn_bool); (exact purL_os rfl (by simp) rfl); (exact ho); rfl))
             | (((with_reducible apply go_st_agg); rfl; rfl; rfl; rfl; rfl; rfl; rfl))
             | (((with_reducible apply go_extract); rfl; rfl))
             | (((with_reducible apply go_bx_agg); rfl; rfl; (exact Nat.le_of_ble_eq_true rfl); rfl; rfl))
             | (((with_reducible apply go_alloc); rfl; rfl; rfl))
             | (((with_reducible apply go_bs1_agg); rfl; rfl; rfl; rfl; rfl; rfl)))
           | ((with_reducible (show evOps _ _ _ _ _ _)); first
             | (with_reducible apply go_nil))
           | ((with_reducible (show evG _ _ _ _ _)); first
             | (with_reducible apply go_seq)
             | (with_reducible apply go_region)
             | ((with_reducible apply go_cond_f); rfl; rfl)
             | (with_reducible apply go_skipc)
             | (with_reducible apply go_block))
           | (with_reducible apply go_kseq)
  refine go_count 3 (fun i => ⟨[(30, .int .i64 i), (12, .int .i64 (detT (a.lev * u) (b.lev * v) (c.lev * w) i)), (5, .op 1 0 0), (6, .op 2 0 0), (8, .op 3 0 0), (9, .op 4 0 0), (10, .int .i64 e)], [(1, ⟨2, true, [encPt p]⟩), (2, ⟨2, true, [[.int .i64 0, .int .i64 0]]⟩), (3, ⟨9, true, [encN3 a b c]⟩), (4, ⟨6, true, [preP a b c 3]⟩)], 32, 56⟩) (fun _ => True)
    (entails_eq (nx := 32) (k := 0) (ns := []) (ks := [30, 12, 5, 6, 8, 9, 10]) [(32, 1), (64, 2), (384, 3), (416, 4)] rfl (by simp) (by kernel_rfl)) trivial ?_
  have d0 : detT (a.lev * u) (b.lev * v) (c.lev * w) 0 = 0 := rfl
  have d1 : detT (a.lev * u) (b.lev * v) (c.lev * w) 1 = a.lev * u := Int.zero_add _
  have d2 : detT (a.lev * u) (b.lev * v) (c.lev * w) 2 = a.lev * u + b.lev * v := by
    show 0 + _ + _ = _
    rw [Int.zero_add]
  intro i hi _
  have hc3 : i = 0 ∨ i = 1 ∨ i = 2 ∨ i = 3 := by omega
  rcases hc3 with rfl | rfl | rfl | rfl
  · repeat' first
           | (with_reducible apply go_op)
           | (with_reducible apply go_next)
           | ((with_reducible (show evOp _ _ _ _ _ _)); first
             | (((with_reducible apply go_mv_int); rfl; rfl))
             | ((with_reducible apply go_as))
             | ((with_reducible (show evOp _ (.load _ _) _ _ _ _)) ; first | ((with_reducible apply go_ld_agg); rfl; rfl; rfl; rfl) | ((with_reducible apply go_load_own); rfl; rfl; rfl; rfl))
             | (((with_reducible apply go_fieldAddr_own); rfl; rfl; rfl))
             | (((with_reducible apply go_index_arr); rfl; rfl; rfl; rfl; omega))
             | ((with_reducible (show evOp _ (.binOp _ _ _ _ _) _ _ _ _)) ; first | ((with_reducible apply go_cmp); rfl; rfl; rfl; rfl) | ((with_reducible apply go_add); rfl; rfl; rfl; omega) | ((with_reducible apply go_mul); rfl; rfl; rfl; omega) | ((with_reducible apply go_rem_pos); rfl; rfl; rfl; omega))
             | (((with_reducible apply go_fn_int); rfl; (exact x1'); rfl)))
           | ((with_reducible (show evOps _ _ _ _ _ _)); first
             | (with_reducible apply go_nil)
             | (with_reducible apply go_take)
             | (with_reducible apply go_take0)
             | (with_reducible apply go_drop)
             | (with_reducible apply go_drop0))
           | ((with_reducible (show evG _ _ _ _ _)); first
             | (with_reducible apply go_seq)
             | (with_reducible apply go_region)
             | ((with_reducible apply go_cond_t); rfl; rfl)
             | ((with_reducible apply (go_drawM 19)); decide +kernel; rfl)
             | (with_reducible apply go_skipc)
             | (with_reducible apply go_block))
           | (with_reducible apply go_kseq)
           | (with_reducible apply go_kblock)
           | (with_reducible apply go_kdrop)
    refine ⟨by omega, trivial, entails_eq (nx := 32) (k := 0) (ns := []) (ks := [30, 12, 5, 6, 8, 9, 10]) [(1, 1), (2, 2), (3, 3), (4, 4)] rfl (by simp) (by kernel_rfl)⟩
  · repeat' first
           | (with_reducible apply go_op)
           | (with_reducible apply go_next)
           | ((with_reducible (show evOp _ _ _ _ _ _)); first
             | (((with_reducible apply go_mv_int); rfl; rfl))
             | ((with_reducible apply go_as))
             | ((with_reducible (show evOp _ (.load _ _) _ _ _ _)) ; first | ((with_reducible apply go_ld_agg); rfl; rfl; rfl; rfl) | ((with_reducible apply go_load_own); rfl; rfl; rfl; rfl))
             | (((with_reducible apply go_fieldAddr_own); rfl; rfl; rfl))
             | (((with_reducible apply go_index_arr); rfl; rfl; rfl; rfl; omega))
             | ((with_reducible (show evOp _ (.binOp _ _ _ _ _) _ _ _ _)) ; first | ((with_reducible apply go_cmp); rfl; rfl; rfl; rfl) | ((with_reducible apply go_add); rfl; rfl; rfl; omega) | ((with_reducible apply go_mul); rfl; rfl; rfl; omega) | ((with_reducible apply go_rem_pos); rfl; rfl; rfl; omega))
             | (((with_reducible apply go_fn_int); rfl; (exact x2'); rfl)))
           | ((with_reducible (show evOps _ _ _ _ _ _)); first
             | (with_reducible apply go_nil)
             | (with_reducible apply go_take)
             | (with_reducible apply go_take0)
             | (with_reducible apply go_drop)
             | (with_reducible apply go_drop0))
           | ((with_reducible (show evG _ _ _ _ _)); first
             | (with_reducible apply go_seq)
             | (with_reducible apply go_region)
             | ((with_reducible apply go_cond_t); rfl; rfl)
             | ((with_reducible apply (go_drawM 19)); decide +kernel; rfl)
             | (with_reducible apply go_skipc)
             | (with_reducible apply go_block))
           | (with_reducible apply go_kseq)
           | (with_reducible apply go_kblock)
           | (with_reducible apply go_kdrop)
    refine ⟨by omega, trivial, entails_eq (nx := 32) (k := 0) (ns := []) (ks := [30, 12, 5, 6, 8, 9, 10]) [(1, 1), (2, 2), (3, 3), (4, 4)] rfl (by simp) (by kernel_rfl)⟩
  · repeat' first
           | (with_reducible apply go_op)
           | (with_reducible apply go_next)
           | ((with_reducible (show evOp _ _ _ _ _ _)); first
             | (((with_reducible apply go_mv_int); rfl; rfl))
             | ((with_reducible apply go_as))
             | ((with_reducible (show evOp _ (.load _ _) _ _ _ _)) ; first | ((with_reducible apply go_ld_agg); rfl; rfl; rfl; rfl) | ((with_reducible apply go_load_own); rfl; rfl; rfl; rfl))
             | (((with_reducible apply go_fieldAddr_own); rfl; rfl; rfl))
             | (((with_reducible apply go_index_arr); rfl; rfl; rfl; rfl; omega))
             | ((with_reducible (show evOp _ (.binOp _ _ _ _ _) _ _ _ _)) ; first | ((with_reducible apply go_cmp); rfl; rfl; rfl; rfl) | ((with_reducible apply go_add); rfl; rfl; rfl; omega) | ((with_reducible apply go_mul); rfl; rfl; rfl; omega) | ((with_reducible apply go_rem_pos); rfl; rfl; rfl; omega))
             | (((with_reducible apply go_fn_int); rfl; (exact x3'); rfl)))
           | ((with_reducible (show evOps _ _ _ _ _ _)); first
             | (with_reducible apply go_nil)
             | (with_reducible apply go_take)
             | (with_reducible apply go_take0)
             | (with_reducible apply go_drop)
             | (with_reducible apply go_drop0))
           | ((with_reducible (show evG _ _ _ _ _)); first
             | (with_reducible apply go_seq)
             | (with_reducible apply go_region)
             | ((with_reducible apply go_cond_t); rfl; rfl)
             | ((with_reducible apply (go_drawM 19)); decide +kernel; rfl)
             | (with_reducible apply go_skipc)
             | (with_reducible apply go_block))
           | (with_reducible apply go_kseq)
           | (with_reducible apply go_kblock)
           | (with_reducible apply go_kdrop)
    refine ⟨by omega, trivial, entails_eq (nx := 32) (k := 0) (ns := []) (ks := [30, 12, 5, 6, 8, 9, 10]) [(1, 1), (2, 2), (3, 3), (4, 4)] rfl (by simp) (by kernel_rfl)⟩
  · repeat' first
           | (with_reducible apply go_op)
           | (with_reducible apply go_next)
           | ((with_reducible (show evOp _ _ _ _ _ _)); first
             | (((with_reducible apply go_mv_int); rfl; rfl))
             | ((with_reducible apply go_as))
             | (((with_reducible apply go_cmp); rfl; rfl; rfl; rfl))
             | (((with_reducible apply go_fn_plain); rfl; (exact hlow); rfl; (exact Nat.le_of_ble_eq_true rfl); rfl))
             | (((with_reducible apply go_st_agg); rfl; rfl; rfl; rfl; rfl; rfl; rfl)))
           | ((with_reducible (show evOps _ _ _ _ _ _)); first
             | (with_reducible apply go_nil))
           | ((with_reducible (show evG _ _ _ _ _)); first
             | (with_reducible apply go_seq)
             | (with_reducible apply go_region)
             | ((with_reducible apply go_cond_f); rfl; rfl)
             | (with_reducible apply go_ret)
             | (with_reducible apply go_exit))
           | (with_reducible apply go_kseq)
           | (with_reducible apply go_kblock_exit)
           | (with_reducible apply go_kseq_exit)
           | ((with_reducible apply end_t2); rfl; rfl; rfl; rfl)
    all_goals rfl
end Go.Pv.Geo

open Go Go.Proofs Go.Pv
set_option maxHeartbeats 4000000
set_option maxRecDepth 100000
set_option linter.unusedSimpArgs false
set_option linter.unusedVariables false
namespace Go.Pv.Geo
def prismE (l : List Nd) (t : Tri) (v : Int) : Int := absE (dblE l t) * ((ndI l t.a).lev + (ndI l t.b).lev + (ndI l t.c).lev - 3 * v)
def prismR (l : List Nd) (t : Tri) (v : Int) : Int × Int := if nodeE l t = 0 then (if lvOK v = true then (prismE l t v, 0) else (0, 2)) else (0, nodeE l t)
theorem absMax (n : Int) : max n (0 - n) = absE n := by unfold absE; split <;> omega
theorem abs_bd {n B : Int} (h : -B ≤ n ∧ n ≤ B) : 0 ≤ absE n ∧ absE n ≤ B := by unfold absE; split <;> omega
theorem prism_bd {d m : Int} (hd : 0 ≤ d ∧ d ≤ 8000000000000) (hm : -120000 ≤ m ∧ m ≤ 120000) : -960000000000000000 ≤ d * m ∧ d * m ≤ 960000000000000000 := by
  have := mul_abs (A := 8000000000000) (B := 120000) (u := d) (v := m) (by omega) hm
  omega
theorem c_Prism (l : List Nd) (hl : l.length < 1000000000000) (t : Tri) (v : Int) : Contract Try.prog 49 [.sl (l.map encNd), .agg (encTri t), .int .i64 v] (.ret (.tup [.int .i64 (prismR l t v).1, .int .i64 (prismR l t v).2])) := by
  have hC := c_corners l hl t
  by_cases hz : nodeE l t = 0
  rotate_left
  · rw [prismR, if_neg hz]
    by_cases hz2 : nodeE l t = 10
    · rw [cornD, if_pos (.inr hz2), hz2] at hC
      rw [hz2]
      refine contract_of mix Try.func49 rfl rfl (by rw [Try.ntmps49]; exact Nat.le_of_ble_eq_true rfl) ?_; rw [Try.results49, Try.ntmps49]; simp only [argsE, Nat.reduceAdd]
      repeat' first
           | (with_reducible apply go_op)
           | (with_reducible apply go_next)
           | ((with_reducible (show evOp _ _ _ _ _ _)); first
             | ((with_reducible (show evOp _ (.move _) _ _ _ _)) ; first | ((with_reducible apply go_mv_int); rfl; rfl) | ((with_reducible apply go_mv_sl); rfl; rfl) | ((with_reducible apply go_mv_tup); rfl; rfl))
             | ((with_reducible apply go_as))
             | (((with_reducible apply go_ld_agg); rfl; rfl; rfl; rfl))
             | (((with_reducible apply go_cmp); rfl; rfl; rfl; rfl))
             | (((with_reducible apply go_fn_plain); rfl; (exact hC); rfl; (exact Nat.le_of_ble_eq_true rfl); rfl))
             | (((with_reducible apply go_st_agg); rfl; rfl; rfl; rfl; rfl; rfl; rfl))
             | (((with_reducible apply go_extract); rfl; rfl))
             | (((with_reducible apply go_bx_agg); rfl; rfl; (exact Nat.le_of_ble_eq_true rfl); rfl; rfl))
             | (((with_reducible apply go_alloc); rfl; rfl; rfl)))
           | ((with_reducible (show evOps _ _ _ _ _ _)); first
             | (with_reducible apply go_nil))
           | ((with_reducible (show evG _ _ _ _ _)); first
             | (with_reducible apply go_seq)
             | (with_reducible apply go_region)
             | ((with_reducible apply go_cond_t); rfl; rfl)
             | (with_reducible apply go_ret))
           | (with_reducible apply go_kseq)
           | (with_reducible apply go_kseq_ret)
           | ((with_reducible apply end_t2); rfl; rfl; rfl; rfl)
      all_goals first
        | (exfalso; omega)
        | rfl
    · rw [cornD, if_neg (by omega)] at hC
      refine contract_of mix Try.func49 rfl rfl (by rw [Try.ntmps49]; exact Nat.le_of_ble_eq_true rfl) ?_; rw [Try.results49, Try.ntmps49]; simp only [argsE, Nat.reduceAdd]
      repeat' first
           | (with_reducible apply go_op)
           | (with_reducible apply go_next)
           | ((with_reducible (show evOp _ _ _ _ _ _)); first
             | ((with_reducible (show evOp _ (.move _) _ _ _ _)) ; first | ((with_reducible apply go_mv_int); rfl; rfl) | ((with_reducible apply go_mv_sl); rfl; rfl) | ((with_reducible apply go_mv_tup); rfl; rfl))
             | ((with_reducible apply go_as))
             | (((with_reducible apply go_ld_agg); rfl; rfl; rfl; rfl))
             | (((with_reducible apply go_cmp); rfl; rfl; rfl; rfl))
             | (((with_reducible apply go_fn_plain); rfl; (exact hC); rfl; (exact Nat.le_of_ble_eq_true rfl); rfl))
             | (((with_reducible apply go_st_agg); rfl; rfl; rfl; rfl; rfl; rfl; rfl))
             | (((with_reducible apply go_extract); rfl; rfl))
             | (((with_reducible apply go_bx_agg); rfl; rfl; (exact Nat.le_of_ble_eq_true rfl); rfl; rfl))
             | (((with_reducible apply go_alloc); rfl; rfl; rfl)))
           | ((with_reducible (show evOps _ _ _ _ _ _)); first
             | (with_reducible apply go_nil))
           | ((with_reducible (show evG _ _ _ _ _)); first
             | (with_reducible apply go_seq)
             | (with_reducible apply go_region)
             | (((with_reducible apply go_cond); rfl) <;> (intro h; simp only [h]; try simp only [decide_eq_true_eq, decide_eq_false_iff_not, Bool.not_eq_true', Bool.not_eq_false', Bool.not_true, Bool.not_false] at h; try exact absurd trivial h))
             | (with_reducible apply go_ret)
             | (with_reducible apply go_skipc))
           | (with_reducible apply go_kseq)
           | (with_reducible apply go_kseq_ret)
           | ((with_reducible apply end_t2); rfl; rfl; rfl; rfl)
      all_goals first
        | (exfalso; omega)
        | rfl
  obtain ⟨h64, hok, hh⟩ := node_ok (.inl hz)
  obtain ⟨q1, q2, q3⟩ := has_bd hh
  rw [cornD, if_pos (.inl hz), hz] at hC
  have ka := nd_ok (hok _ (ndI_mem q1))
  have kb := nd_ok (hok _ (ndI_mem q2))
  have kc := nd_ok (hok _ (ndI_mem q3))
  have hv := c_leveled v
  rw [prismR, if_pos hz]
  cases hp : lvOK v
  · rw [hp] at hv
    refine contract_of mix Try.func49 rfl rfl (by rw [Try.ntmps49]; exact Nat.le_of_ble_eq_true rfl) ?_; rw [Try.results49, Try.ntmps49]; simp only [argsE, Nat.reduceAdd]
    repeat' first
           | (with_reducible apply go_op)
           | (with_reducible apply go_next)
           | ((with_reducible (show evOp _ _ _ _ _ _)); first
             | ((with_reducible (show evOp _ (.move _) _ _ _ _)) ; first | ((with_reducible apply go_mv_int); rfl; rfl) | ((with_reducible apply go_mv_sl); rfl; rfl) | ((with_reducible apply go_mv_tup); rfl; rfl))
             | ((with_reducible apply go_as))
             | (((with_reducible apply go_ld_agg); rfl; rfl; rfl; rfl))
             | (((with_reducible apply go_cmp); rfl; rfl; rfl; rfl))
             | ((with_reducible (show evOp _ (.call _) _ _ _ _)) ; first | ((with_reducible apply go_fn_plain); rfl; (exact hC); rfl; (exact Nat.le_of_ble_eq_true rfl); rfl) | ((with_reducible apply go_fn_bool); rfl; (exact hv); rfl))
             | (((with_reducible apply go_st_agg); rfl; rfl; rfl; rfl; rfl; rfl; rfl))
             | (((with_reducible apply go_not); rfl; rfl))
             | (((with_reducible apply go_extract); rfl; rfl))
             | (((with_reducible apply go_bx_agg); rfl; rfl; (exact Nat.le_of_ble_eq_true rfl); rfl; rfl))
             | (((with_reducible apply go_alloc); rfl; rfl; rfl)))
           | ((with_reducible (show evOps _ _ _ _ _ _)); first
             | (with_reducible apply go_nil))
           | ((with_reducible (show evG _ _ _ _ _)); first
             | (with_reducible apply go_seq)
             | (with_reducible apply go_region)
             | ((with_reducible apply go_cond_t); rfl; rfl)
             | ((with_reducible apply go_cond_f); rfl; rfl)
             | (with_reducible apply go_ret)
             | (with_reducible apply go_skipc))
           | (with_reducible apply go_kseq)
           | (with_reducible apply go_kseq_ret)
           | ((with_reducible apply end_t2); rfl; rfl; rfl; rfl)
    all_goals rfl
  rw [hp] at hv
  have hvb := lv_bd hp
  rw [if_pos rfl, prismE]
  have y0 : -8000000000000 ≤ dblE l t ∧ dblE l t ≤ 8000000000000 := crossE_bd ka.1 kb.1 kc.1
  rw [← absMax]
  generalize dblE l t = e at *
  generalize ndI l t.a = a at *
  generalize ndI l t.b = b at *
  generalize ndI l t.c = c at *
  have y1 := lv_bd ka.2
  have y2 := lv_bd kb.2
  have y3 := lv_bd kc.2
  have y4 := prism_bd (d := max e (0 - e)) (m := a.lev + b.lev + c.lev - 3 * v) (by omega) (by omega)
  refine contract_of mix Try.func49 rfl rfl (by rw [Try.ntmps49]; exact Nat.le_of_ble_eq_true rfl) ?_; rw [Try.results49, Try.ntmps49]; simp only [argsE, Nat.reduceAdd]
  repeat' first
           | (with_reducible apply go_op)
           | (with_reducible apply go_next)
           | ((with_reducible (show evOp _ _ _ _ _ _)); first
             | ((with_reducible (show evOp _ (.move _) _ _ _ _)) ; first | ((with_reducible apply go_mv_int); rfl; rfl) | ((with_reducible apply go_mv_sl); rfl; rfl) | ((with_reducible apply go_mv_tup); rfl; rfl))
             | ((with_reducible apply go_as))
             | ((with_reducible (show evOp _ (.load _ _) _ _ _ _)) ; first | ((with_reducible apply go_ld_agg); rfl; rfl; rfl; rfl) | ((with_reducible apply go_load_own); rfl; rfl; rfl; rfl))
             | (((with_reducible apply go_fieldAddr_own); rfl; rfl; rfl))
             | (((with_reducible apply go_index_arr); rfl; rfl; rfl; rfl; omega))
             | ((with_reducible (show evOp _ (.binOp _ _ _ _ _) _ _ _ _)) ; first | ((with_reducible apply go_cmp); rfl; rfl; rfl; rfl) | ((with_reducible apply go_add); rfl; rfl; rfl; omega) | ((with_reducible apply go_sub); rfl; rfl; rfl; omega) | ((with_reducible apply go_mul); rfl; rfl; rfl; omega))
             | ((with_reducible (show evOp _ (.call _) _ _ _ _)) ; first | ((with_reducible apply go_max); rfl; rfl; rfl) | ((with_reducible apply go_fn_plain); rfl; (exact hC); rfl; (exact Nat.le_of_ble_eq_true rfl); rfl) | ((with_reducible apply go_fn_bool); rfl; (exact hv); rfl))
             | (((with_reducible apply go_st_agg); rfl; rfl; rfl; rfl; rfl; rfl; rfl))
             | ((with_reducible (show evOp _ (.unOp _ _ _) _ _ _ _)) ; first | ((with_reducible apply go_not); rfl; rfl) | ((with_reducible apply go_neg); rfl; rfl; omega))
             | (((with_reducible apply go_extract); rfl; rfl))
             | (((with_reducible apply go_bx_agg); rfl; rfl; (exact Nat.le_of_ble_eq_true rfl); rfl; rfl))
             | (((with_reducible apply go_alloc); rfl; rfl; rfl)))
           | ((with_reducible (show evOps _ _ _ _ _ _)); first
             | (with_reducible apply go_nil))
           | ((with_reducible (show evG _ _ _ _ _)); first
             | (with_reducible apply go_seq)
             | (with_reducible apply go_region)
             | ((with_reducible apply go_cond_f); rfl; rfl)
             | (with_reducible apply go_ret)
             | (with_reducible apply go_skipc))
           | (with_reducible apply go_kseq)
           | ((with_reducible apply end_t2); rfl; rfl; rfl; rfl)
  all_goals rfl
theorem c_rLevel (l : List Nd) (hl : l.length < 1000000000000) (t : Tri) (p : Pt) (hz : nodeE l t = 0) (hp : ptOK p = true) : Contract Try.prog 51 [.sl (l.map encNd), .agg (encTri t), .agg (encPt p)] (.ret (levelD l t p)) := by
  obtain ⟨h64, hok, hh⟩ := node_ok (.inl hz)
  obtain ⟨q1, q2, q3⟩ := has_bd hh
  have hnz := node_c hz
  have ka := nd_ok (hok _ (ndI_mem q1))
  have kb := nd_ok (hok _ (ndI_mem q2))
  have kc := nd_ok (hok _ (ndI_mem q3))
  have x1 := c_rcross (ptN (ndI l t.b)) (ptN (ndI l t.c)) p kb.1 kc.1 hp
  have x2 := c_rcross (ptN (ndI l t.c)) (ptN (ndI l t.a)) p kc.1 ka.1 hp
  have x3 := c_rcross (ptN (ndI l t.a)) (ptN (ndI l t.b)) p ka.1 kb.1 hp
  have x4 := c_rcross (ptN (ndI l t.a)) (ptN (ndI l t.b)) (ptN (ndI l t.c)) ka.1 kb.1 kc.1
  have y0 := crossE_bd ka.1 kb.1 kc.1
  have y1 := lev_mul (lv_bd ka.2) (crossE_bd kb.1 kc.1 hp)
  have y2 := lev_mul (lv_bd kb.2) (crossE_bd kc.1 ka.1 hp)
  have y3 := lev_mul (lv_bd kc.2) (crossE_bd ka.1 kb.1 hp)
  have hlow := c_rLowest (detN l t p) (dblE l t) (by unfold detN; omega) (by unfold dblE; omega) hnz
  rw [detN, dblE] at hlow
  rw [Int.mul_comm] at y1 y2 y3
  rw [Int.mul_comm (ndI l t.a).lev, Int.mul_comm (ndI l t.b).lev, Int.mul_comm (ndI l t.c).lev] at hlow
  rw [levelD, detN, dblE, Int.mul_comm (ndI l t.a).lev, Int.mul_comm (ndI l t.b).lev, Int.mul_comm (ndI l t.c).lev]
  simp only [← ndI_get (show t.a.toNat < l.length by omega), ← ndI_get (show t.b.toNat < l.length by omega), ← ndI_get (show t.c.toNat < l.length by omega)] at *
  refine contract_of mix Try.func51 rfl rfl (by rw [Try.ntmps51]; exact Nat.le_of_ble_eq_true rfl) ?_; rw [Try.results51, Try.ntmps51]; simp only [argsE, Nat.reduceAdd]
  repeat' first
           | (with_reducible apply go_op)
           | (with_reducible apply go_next)
           | ((with_reducible (show evOp _ _ _ _ _ _)); first
             | ((with_reducible (show evOp _ (.move _) _ _ _ _)) ; first | ((with_reducible apply go_mv_int); rfl; rfl) | ((with_reducible apply go_mv_sl); rfl; rfl))
             | ((with_reducible apply go_as))
             | ((with_reducible (show evOp _ (.load _ _) _ _ _ _)) ; first | ((with_reducible apply go_ld_ptr); rfl; rfl; rfl) | ((with_reducible apply go_ld_agg); rfl; rfl; rfl; rfl) | ((with_reducible apply go_load); rfl; rfl; rfl) | ((with_reducible apply go_load_own); rfl; rfl; rfl; rfl))
             | ((with_reducible (show evOp _ (.fieldAddr _ _ _) _ _ _ _)) ; first | ((with_reducible apply go_fieldAddr); rfl; rfl) | ((with_reducible apply go_fieldAddr_own); rfl; rfl; rfl))
             | (((with_reducible apply go_index); rfl; rfl; (intro; rfl); rfl; omega; intro hlt))
             | ((with_reducible (show evOp _ (.binOp _ _ _ _ _) _ _ _ _)) ; first | ((with_reducible apply go_add); rfl; rfl; rfl; omega) | ((with_reducible apply go_mul); rfl; rfl; rfl; omega))
             | ((with_reducible (show evOp _ (.call _) _ _ _ _)) ; first | ((with_reducible apply go_fn_plain); rfl; (exact c_place _); rfl; (exact Nat.le_of_ble_eq_true rfl); rfl) | ((with_reducible apply go_fn_int); rfl; (exact x1); rfl) | ((with_reducible apply go_fn_int); rfl; (exact x2); rfl) | ((with_reducible apply go_fn_int); rfl; (exact x3); rfl) | ((with_reducible apply go_fn_int); rfl; (exact x4); rfl) | ((with_reducible apply go_fn_plain); rfl; (exact hlow); rfl; (exact Nat.le_of_ble_eq_true rfl); rfl))
             | (((with_reducible apply go_st_agg); rfl; rfl; rfl; rfl; rfl; rfl; rfl))
             | (((with_reducible apply go_bx_agg); rfl; rfl; (exact Nat.le_of_ble_eq_true rfl); rfl; rfl))
             | (((with_reducible apply go_alloc); rfl; rfl; rfl)))
           | ((with_reducible (show evOps _ _ _ _ _ _)); first
             | (with_reducible apply go_nil)
             | ((with_reducible apply go_pre); rfl)
             | ((with_reducible apply go_pre_stop); rfl)
             | (with_reducible apply go_pre_nil)
             | ((with_reducible apply go_suf); rfl)
             | ((with_reducible apply go_suf_stop); rfl)
             | (with_reducible apply go_suf_nil))
           | ((with_reducible (show evG _ _ _ _ _)); first
             | (with_reducible apply go_seq)
             | (with_reducible apply go_region)
             | ((with_reducible apply go_order); kernel_rfl; rfl)
             | (with_reducible apply go_ret))
           | (with_reducible apply go_kseq)
           | (with_reducible apply go_ksuf)
           | ((with_reducible apply end_agg); rfl; rfl)
  all_goals first
    | rfl
    | trace_state
theorem c_rPrism (l : List Nd) (hl : l.length < 1000000000000) (t : Tri) (v : Int) (hz : nodeE l t = 0) (hv : lvOK v = true) : Contract Try.prog 52 [.sl (l.map encNd), .agg (encTri t), .int .i64 v] (.ret (.int .i64 (prismE l t v))) := by
  obtain ⟨h64, hok, hh⟩ := node_ok (.inl hz)
  obtain ⟨q1, q2, q3⟩ := has_bd hh
  have ka := nd_ok (hok _ (ndI_mem q1))
  have kb := nd_ok (hok _ (ndI_mem q2))
  have kc := nd_ok (hok _ (ndI_mem q3))
  have x4 := c_rcross (ptN (ndI l t.a)) (ptN (ndI l t.b)) (ptN (ndI l t.c)) ka.1 kb.1 kc.1
  have y0 := crossE_bd ka.1 kb.1 kc.1
  have x5 := c_abs (crossE (ptN (ndI l t.a)) (ptN (ndI l t.b)) (ptN (ndI l t.c))) (by omega) (by omega)
  have y5 := abs_bd y0
  have y1 := lv_bd ka.2
  have y2 := lv_bd kb.2
  have y3 := lv_bd kc.2
  have hvb := lv_bd hv
  have y4 := prism_bd (m := (ndI l t.a).lev + (ndI l t.b).lev + (ndI l t.c).lev - 3 * v) y5 (by omega)
  rw [prismE, dblE]
  simp only [← ndI_get (show t.a.toNat < l.length by omega), ← ndI_get (show t.b.toNat < l.length by omega), ← ndI_get (show t.c.toNat < l.length by omega)] at *
  refine contract_of mix Try.func52 rfl rfl (by rw [Try.ntmps52]; exact Nat.le_of_ble_eq_true rfl) ?_; rw [Try.results52, Try.ntmps52]; simp only [argsE, Nat.reduceAdd]
  repeat' first
           | (with_reducible apply go_op)
           | (with_reducible apply go_next)
           | ((with_reducible (show evOp _ _ _ _ _ _)); first
             | ((with_reducible (show evOp _ (.move _) _ _ _ _)) ; first | ((with_reducible apply go_mv_int); rfl; rfl) | ((with_reducible apply go_mv_sl); rfl; rfl))
             | ((with_reducible apply go_as))
             | ((with_reducible (show evOp _ (.load _ _) _ _ _ _)) ; first | ((with_reducible apply go_ld_ptr); rfl; rfl; rfl) | ((with_reducible apply go_load); rfl; rfl; rfl) | ((with_reducible apply go_load_own); rfl; rfl; rfl; rfl))
             | ((with_reducible (show evOp _ (.fieldAddr _ _ _) _ _ _ _)) ; first | ((with_reducible apply go_fieldAddr); rfl; rfl) | ((with_reducible apply go_fieldAddr_own); rfl; rfl; rfl))
             | (((with_reducible apply go_index); rfl; rfl; (intro; rfl); rfl; omega; intro hlt))
             | ((with_reducible (show evOp _ (.binOp _ _ _ _ _) _ _ _ _)) ; first | ((with_reducible apply go_add); rfl; rfl; rfl; omega) | ((with_reducible apply go_sub); rfl; rfl; rfl; omega) | ((with_reducible apply go_mul); rfl; rfl; rfl; omega))
             | ((with_reducible (show evOp _ (.call _) _ _ _ _)) ; first | ((with_reducible apply go_fn_plain); rfl; (exact c_place _); rfl; (exact Nat.le_of_ble_eq_true rfl); rfl) | ((with_reducible apply go_fn_int); rfl; (exact x4); rfl) | ((with_reducible apply go_fn_int); rfl; (exact x5); rfl))
             | (((with_reducible apply go_bx_agg); rfl; rfl; (exact Nat.le_of_ble_eq_true rfl); rfl; rfl)))
           | ((with_reducible (show evOps _ _ _ _ _ _)); first
             | (with_reducible apply go_nil)
             | ((with_reducible apply go_pre); rfl)
             | (with_reducible apply go_pre_nil)
             | ((with_reducible apply go_suf); rfl)
             | (with_reducible apply go_suf_nil))
           | ((with_reducible (show evG _ _ _ _ _)); first
             | (with_reducible apply go_seq)
             | (with_reducible apply go_region)
             | ((with_reducible apply go_order); kernel_rfl; rfl)
             | (with_reducible apply go_ret))
           | (with_reducible apply go_kseq)
           | (with_reducible apply go_ksuf)
           | ((with_reducible apply end_int); rfl)
           | (with_reducible rfl)
  all_goals first
    | rfl
    | trace_state
end Go.Pv.Geo

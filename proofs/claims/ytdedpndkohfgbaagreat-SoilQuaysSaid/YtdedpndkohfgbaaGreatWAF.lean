import Derived.Test.YtdedpndkohfgbaaGreatProg
import Derived.Test.YtdedpndkohfgbaaGreatWAE
import Derived.KernelRfl
import Derived.Test.YtdedpndkohfgbaaGreatWAD
import Derived.Test.YtdedpndkohfgbaaGreatWAC
/- Part of the proofs over YtdedpndkohfgbaaGreat: PH4, PH20, PH21, S66, S67, S6, S7, S8, S9, S15, S16, S17, S18, S19, S20, S10, S11, S12, S21, S22, S23. -/
set_option linter.unusedVariables false
set_option linter.unusedSimpArgs false
set_option linter.unnecessarySimpa false
open Go Go.Proofs Go.Pv
set_option maxHeartbeats 4000000
set_option maxRecDepth 100000
set_option linter.unusedSimpArgs false
set_option linter.unusedVariables false
namespace Go.Pv.Geo
/-- The exported functions answer 0 if a point is not in range. -/
def crossX (a b c : Pt) : Int := if (ptOK a && ptOK b && ptOK c) = true then crossE a b c else 0
def sqX (a b : Pt) : Int := if (ptOK a && ptOK b) = true then sqE a b else 0
theorem ok2 {a b : Pt} (h : (ptOK a && ptOK b) = true) : ptOK a = true ∧ ptOK b = true := by simpa using h
theorem ok3 {a b c : Pt} (h : (ptOK a && ptOK b && ptOK c) = true) : ptOK a = true ∧ ptOK b = true ∧ ptOK c = true := by
  simp only [Bool.and_eq_true] at h; exact ⟨h.1.1, h.1.2, h.2⟩
theorem ok4 {a b c d : Pt} (h : (ptOK a && ptOK b && ptOK c && ptOK d) = true) : ptOK a = true ∧ ptOK b = true ∧ ptOK c = true ∧ ptOK d = true := by
  simp only [Bool.and_eq_true] at h; exact ⟨h.1.1.1, h.1.1.2, h.1.2, h.2⟩
theorem c_Cross (a b c : Pt) : Contract Tryz.prog 77 [.agg (encPt a), .agg (encPt b), .agg (encPt c)] (.ret (.int .i64 (crossX a b c))) := by
  have h1 := c_outside_3 a b c
  unfold crossX
  cases hok : ptOK a && ptOK b && ptOK c
  · rw [hok] at h1
    refine contract_of mix Tryz.func77 rfl rfl (by rw [Tryz.ntmps77]; exact Nat.le_of_ble_eq_true rfl) ?_; rw [Tryz.results77, Tryz.ntmps77]; simp only [argsE, Nat.reduceAdd]
    repeat' first
           | (with_reducible apply go_op)
           | (with_reducible apply go_next)
           | ((with_reducible (show evOp _ _ _ _ _ _)); first
             | (((with_reducible apply go_mv_int); rfl; rfl))
             | ((with_reducible apply go_as))
             | (((with_reducible apply go_ld_agg); rfl; rfl; rfl; rfl))
             | (((with_reducible apply go_fn_bool); (exact purL_os rfl (by simp) rfl); (exact h1); rfl))
             | (((with_reducible apply go_bx_agg); rfl; rfl; (exact Nat.le_of_ble_eq_true rfl); rfl; rfl))
             | (((with_reducible apply go_bs3_agg); rfl; rfl; rfl; rfl; rfl; rfl; rfl; rfl; rfl; rfl)))
           | ((with_reducible (show evOps _ _ _ _ _ _)); first
             | (with_reducible apply go_nil))
           | ((with_reducible (show evG _ _ _ _ _)); first
             | (with_reducible apply go_seq)
             | (with_reducible apply go_region)
             | ((with_reducible apply go_cond_t); rfl; rfl)
             | (with_reducible apply go_ret))
           | (with_reducible apply go_kseq)
           | (with_reducible apply go_kseq_ret)
           | ((with_reducible apply end_int); rfl)
    all_goals rfl
  · rw [hok] at h1
    obtain ⟨ha, hb, hc⟩ := ok3 hok
    refine contract_of mix Tryz.func77 rfl rfl (by rw [Tryz.ntmps77]; exact Nat.le_of_ble_eq_true rfl) ?_; rw [Tryz.results77, Tryz.ntmps77]; simp only [argsE, Nat.reduceAdd]
    repeat' first
           | (with_reducible apply go_op)
           | (with_reducible apply go_next)
           | ((with_reducible (show evOp _ _ _ _ _ _)); first
             | (((with_reducible apply go_mv_int); rfl; rfl))
             | ((with_reducible apply go_as))
             | (((with_reducible apply go_ld_agg); rfl; rfl; rfl; rfl))
             | ((with_reducible (show evOp _ (.call _) _ _ _ _)) ; first | ((with_reducible apply go_fn_bool); (exact purL_os rfl (by simp) rfl); (exact h1); rfl) | ((with_reducible apply go_fn_int); rfl; (exact c_cross a b c ha hb hc); rfl))
             | (((with_reducible apply go_bx_agg); rfl; rfl; (exact Nat.le_of_ble_eq_true rfl); rfl; rfl))
             | (((with_reducible apply go_bs3_agg); rfl; rfl; rfl; rfl; rfl; rfl; rfl; rfl; rfl; rfl)))
           | ((with_reducible (show evOps _ _ _ _ _ _)); first
             | (with_reducible apply go_nil))
           | ((with_reducible (show evG _ _ _ _ _)); first
             | (with_reducible apply go_seq)
             | (with_reducible apply go_region)
             | ((with_reducible apply go_cond_f); rfl; rfl)
             | (with_reducible apply go_ret)
             | (with_reducible apply go_skipc))
           | (with_reducible apply go_kseq)
           | ((with_reducible apply end_int); rfl)
    all_goals rfl
theorem c_Square (a b : Pt) : Contract Tryz.prog 102 [.agg (encPt a), .agg (encPt b)] (.ret (.int .i64 (sqX a b))) := by
  have h1 := c_outside_2 a b
  unfold sqX
  cases hok : ptOK a && ptOK b
  · rw [hok] at h1
    refine contract_of mix Tryz.func102 rfl rfl (by rw [Tryz.ntmps102]; exact Nat.le_of_ble_eq_true rfl) ?_; rw [Tryz.results102, Tryz.ntmps102]; simp only [argsE, Nat.reduceAdd]
    repeat' first
           | (with_reducible apply go_op)
           | (with_reducible apply go_next)
           | ((with_reducible (show evOp _ _ _ _ _ _)); first
             | (((with_reducible apply go_mv_int); rfl; rfl))
             | ((with_reducible apply go_as))
             | (((with_reducible apply go_ld_agg); rfl; rfl; rfl; rfl))
             | (((with_reducible apply go_fn_bool); (exact purL_os rfl (by simp) rfl); (exact h1); rfl))
             | (((with_reducible apply go_bx_agg); rfl; rfl; (exact Nat.le_of_ble_eq_true rfl); rfl; rfl))
             | (((with_reducible apply go_bs2_agg); rfl; rfl; rfl; rfl; rfl; rfl; rfl; rfl)))
           | ((with_reducible (show evOps _ _ _ _ _ _)); first
             | (with_reducible apply go_nil))
           | ((with_reducible (show evG _ _ _ _ _)); first
             | (with_reducible apply go_seq)
             | (with_reducible apply go_region)
             | ((with_reducible apply go_cond_t); rfl; rfl)
             | (with_reducible apply go_ret))
           | (with_reducible apply go_kseq)
           | (with_reducible apply go_kseq_ret)
           | ((with_reducible apply end_int); rfl)
    all_goals rfl
  · rw [hok] at h1
    obtain ⟨ha, hb⟩ := ok2 hok
    refine contract_of mix Tryz.func102 rfl rfl (by rw [Tryz.ntmps102]; exact Nat.le_of_ble_eq_true rfl) ?_; rw [Tryz.results102, Tryz.ntmps102]; simp only [argsE, Nat.reduceAdd]
    repeat' first
           | (with_reducible apply go_op)
           | (with_reducible apply go_next)
           | ((with_reducible (show evOp _ _ _ _ _ _)); first
             | (((with_reducible apply go_mv_int); rfl; rfl))
             | ((with_reducible apply go_as))
             | (((with_reducible apply go_ld_agg); rfl; rfl; rfl; rfl))
             | ((with_reducible (show evOp _ (.call _) _ _ _ _)) ; first | ((with_reducible apply go_fn_bool); (exact purL_os rfl (by simp) rfl); (exact h1); rfl) | ((with_reducible apply go_fn_int); rfl; (exact c_dot a b b ha hb hb); rfl))
             | (((with_reducible apply go_bx_agg); rfl; rfl; (exact Nat.le_of_ble_eq_true rfl); rfl; rfl))
             | (((with_reducible apply go_bs2_agg); rfl; rfl; rfl; rfl; rfl; rfl; rfl; rfl)))
           | ((with_reducible (show evOps _ _ _ _ _ _)); first
             | (with_reducible apply go_nil))
           | ((with_reducible (show evG _ _ _ _ _)); first
             | (with_reducible apply go_seq)
             | (with_reducible apply go_region)
             | ((with_reducible apply go_cond_f); rfl; rfl)
             | (with_reducible apply go_ret)
             | (with_reducible apply go_skipc))
           | (with_reducible apply go_kseq)
           | ((with_reducible apply end_int); rfl)
    all_goals rfl
def cr (b c d : Pt) : Int := (b.x - d.x) * (c.y - d.y) - (b.y - d.y) * (c.x - d.x)
def rdetE (a b c d : Pt) : Int := nrm a d * cr b c d - nrm b d * cr a c d + nrm c d * cr a b d
theorem rdet_eq (a b c d : Pt) : rdetE a b c d = detE a b c d := by
  simp only [rdetE, detE, nrm, cr, crs]; grind
theorem det_swap (a b c d : Pt) : detE b a c d = -detE a b c d := by
  simp only [detE, nrm, crs]; grind
theorem cross_swap (a b c : Pt) : crossE b a c = -crossE a b c := by
  simp only [crossE]; grind
theorem sign_neg (n : Int) : signE (-n) = -signE n := by unfold signE; (repeat' split) <;> omega
end Go.Pv.Geo

open Go Go.Proofs Go.Pv
set_option maxHeartbeats 4000000
set_option maxRecDepth 100000
set_option linter.unusedSimpArgs false
set_option linter.unusedVariables false
namespace Go.Pv.Geo
instance tintI' : TInt Tryz.prog 3 .i64 := ⟨by kernel_rfl⟩
instance tflo : TFloat Tryz.prog 169 := ⟨by kernel_rfl⟩
theorem ext1 : Extern.findNext Tryz.f155 = none := by kernel_rfl
theorem ext2 : Extern.find Tryz.f155 = some Extern.MathSqrt.sqrt := by kernel_rfl
theorem ext3 : (Tryz.f155.name == "runtime.NumGoroutine") = false := by kernel_rfl
theorem ext4 : Tryz.f155.body.isNone = true := by kernel_rfl
theorem run_ext (x r : Nat) (h : FloatKind.f64.format.sqrt x = some r) (w : World) : (callFunc 155 #[.float .f64 x]).run Tryz.prog w = .ok (.value (.float .f64 r)) w := by
  have hs : Extern.MathSqrt.sqrt #[.float .f64 x] = pure (.float .f64 r) := by
    show (match FloatKind.f64.format.sqrt x with
      | some r => (pure (Value.float .f64 r) : Sem Value)
      | none => do pure (Value.float .f64 (← choose (.nanBits .f64 x x)))) = _
    rw [h]
  unfold callFunc
  have n1 : ¬ Tryz.f155.name = "runtime.NumGoroutine" := by simpa using ext3
  have n2 : Tryz.f155.body = none := by simpa using ext4
  simp [Tryz.func155, ext1, ext2, n1, n2, hs]
theorem sqrt_calls (x r : Nat) (h : FloatKind.f64.format.sqrt x = some r) (w : World) : Calls Tryz.prog 141 #[.float .f64 x] w fun e w' => e = .returned (.float .f64 r) ∧ w' = w := by
  have h1 := run_ext x r h
  go_enter Tryz.func141, Tryz.ntmps141
  go_wp2
  go_ret
  exact ⟨rfl, rfl⟩
theorem c_Sqrt (x r : Nat) (h : FloatKind.f64.format.sqrt x = some r) : Contract Tryz.prog 141 [.float .f64 x] (.ret (.float .f64 r)) := by
  refine ⟨⟨Tryz.f141, Tryz.func141, rfl, by kernel_rfl⟩, fun S w args hS ⟨hl, ha⟩ => ?_⟩
  have e : args = #[.float .f64 x] := by
    match args, hl, ha with
    | ⟨[v]⟩, _, ha =>
      have := ha 0 v _ rfl rfl
      cases this with
      | float k n => rfl
  subst e
  refine (sqrt_calls x r h w).mono ?_
  rintro e w' ⟨rfl, rfl⟩
  refine ⟨Go.RowKit.Below.refl _ _, fun _ => False, fun g hg => hg.elim, _, rfl, fun n => ⟨fun _ => .pending, ⟨fun b blk hb => ?_, fun b _ => .inr rfl, fun b b' g o k sz o' k' sz' h => (by cases h), fun b g o k sz h => (by cases h), fun g hg => hg.elim⟩, .pure _ _ (.float _ _), fun b _ => rfl⟩⟩
  cases hb

/-- The least number whose square is at least s. -/
def IsSpan (s n : Int) : Prop := 0 ≤ n ∧ s ≤ n * n ∧ ∀ m, 0 ≤ m → m < n → m * m < s
theorem span_uniq {s n m : Int} (h : IsSpan s n) (h' : IsSpan s m) : n = m := by
  rcases Int.lt_trichotomy n m with hlt | he | hlt
  · have := h'.2.2 n h.1 hlt; have := h.2.1; omega
  · exact he
  · have := h.2.2 m h'.1 hlt; have := h'.2.1; omega
noncomputable def spanE (s : Int) : Int := Classical.epsilon (IsSpan s)
theorem spanE_eq {s n : Int} (h : IsSpan s n) : spanE s = n := span_uniq (Classical.epsilon_spec (p := IsSpan s) ⟨n, h⟩) h
theorem sq_mono {m n : Int} (h0 : 0 ≤ m) (h : m ≤ n) : m * m ≤ n * n := Int.mul_le_mul h h h0 (by omega)
theorem sqE_bd {a b : Pt} (ha : ptOK a = true) (hb : ptOK b = true) : 0 ≤ sqE a b ∧ sqE a b ≤ 8000000000000 := by
  have h1 := pt_bd ha
  have h2 := pt_bd hb
  have m1 := mul4 (u := b.x - a.x) (v := b.x - a.x) (by omega) (by omega)
  have m2 := mul4 (u := b.y - a.y) (v := b.y - a.y) (by omega) (by omega)
  have n1 : 0 ≤ (b.x - a.x) * (b.x - a.x) := by rcases Int.le_total 0 (b.x - a.x) with h | h; exact Int.mul_nonneg h h; exact Int.mul_nonneg_of_nonpos_of_nonpos h h
  have n2 : 0 ≤ (b.y - a.y) * (b.y - a.y) := by rcases Int.le_total 0 (b.y - a.y) with h | h; exact Int.mul_nonneg h h; exact Int.mul_nonneg_of_nonpos_of_nonpos h h
  simp only [sqE, dotE]
  omega
theorem span_ex {s : Int} : ∀ N : Nat, s ≤ (N : Int) * N → ∃ n : Int, n ≤ N ∧ IsSpan s n
  | 0, h => ⟨0, by omega, by omega, by omega, fun m h1 h2 => by omega⟩
  | N + 1, h => by
    by_cases h' : s ≤ (N : Int) * N
    · obtain ⟨n, h1, h2⟩ := span_ex N h'
      exact ⟨n, by omega, h2⟩
    · exact ⟨((N + 1 : Nat) : Int), by omega, by omega, h, fun m h1 h2 => by have := sq_mono h1 (show m ≤ (N : Int) by omega); omega⟩
theorem span_is {s : Int} (h : s ≤ 8000000000000) : IsSpan s (spanE s) ∧ spanE s ≤ 4000000 := by
  obtain ⟨n, h1, h2⟩ := span_ex (s := s) 4000000 (by omega)
  rw [spanE_eq h2]
  exact ⟨h2, h1⟩
theorem c_span (a b : Pt) (ha : ptOK a = true) (hb : ptOK b = true) : Contract Tryz.prog 111 [.agg (encPt a), .agg (encPt b)] (.ret (.int .i64 (spanE (sqE a b)))) := by
  have hbd := sqE_bd ha hb
  have hd : Contract Tryz.prog 110 [.agg (encPt a), .agg (encPt b), .agg (encPt b)] (.ret (.int .i64 (sqE a b))) := c_dot a b b ha hb hb
  generalize sqE a b = s at *
  obtain ⟨r, n0, hr, hn, hn0⟩ := Sq.sqrt_small s.toNat (by omega)
  have hsn : ((s.toNat : Nat) : Int) = s := by omega
  rw [hsn] at hr
  have hS := c_Sqrt _ _ hr
  refine contract_of mix Tryz.func111 rfl rfl (by rw [Tryz.ntmps111]; exact Nat.le_of_ble_eq_true rfl) ?_; rw [Tryz.results111, Tryz.ntmps111]; simp only [argsE, Nat.reduceAdd]
  repeat' first
           | (with_reducible apply go_op)
           | (with_reducible apply go_next)
           | ((with_reducible (show evOp _ _ _ _ _ _)); first
             | (((with_reducible apply go_mv_int); rfl; rfl))
             | ((with_reducible apply go_as))
             | (((with_reducible apply go_ld_agg); rfl; rfl; rfl; rfl))
             | ((with_reducible (show evOp _ (.call _) _ _ _ _)) ; first | ((with_reducible apply go_fn_int); rfl; (exact hd); rfl) | ((with_reducible apply go_fn_float); rfl; (exact hS); rfl))
             | (((with_reducible apply go_conv_if); rfl; rfl))
             | (((with_reducible apply go_bx_agg); rfl; rfl; (exact Nat.le_of_ble_eq_true rfl); rfl; rfl)))
           | ((with_reducible (show evOps _ _ _ _ _ _)); first
             | (with_reducible apply go_nil))
           | ((with_reducible (show evG _ _ _ _ _)); first
             | (with_reducible apply go_seq)
             | (with_reducible apply go_region))
           | (with_reducible apply go_kseq)
  refine go_conv_fi rfl hn (by omega) rfl ?_
  repeat' first
           | (with_reducible apply go_op)
           | (with_reducible apply go_next)
           | ((with_reducible (show evOp _ _ _ _ _ _)); first
             | (((with_reducible apply go_mv_int); rfl; rfl))
             | ((with_reducible apply go_as)))
           | ((with_reducible (show evOps _ _ _ _ _ _)); first
             | (with_reducible apply go_nil))
           | ((with_reducible (show evG _ _ _ _ _)); first
             | (with_reducible apply go_seq)
             | (with_reducible apply go_block))
           | (with_reducible apply go_kseq)
  refine go_while (fun n : Int => (20000000 - n).toNat) (fun n => ⟨[(6, .int .i64 n), (5, .int .i64 s)], [], 0, 36⟩) (fun n => 0 ≤ n ∧ n ≤ 16777216) (n0 : Int)
    (entails_eq (nx := 0) (k := 0) (ns := []) (ks := [6, 5]) [] rfl (by simp) (by kernel_rfl)) (by omega) ?_
  rintro n ⟨h1, h2⟩
  have hnn := sq_mono h1 h2
  have hnn0 := Int.mul_nonneg h1 h1
  repeat' first
           | (with_reducible apply go_op)
           | (with_reducible apply go_next)
           | ((with_reducible (show evOp _ _ _ _ _ _)); first
             | (((with_reducible apply go_mv_int); rfl; rfl))
             | ((with_reducible apply go_as))
             | ((with_reducible (show evOp _ (.binOp _ _ _ _ _) _ _ _ _)) ; first | ((with_reducible apply go_cmp); rfl; rfl; rfl; rfl) | ((with_reducible apply go_add); rfl; rfl; rfl; omega) | ((with_reducible apply go_mul); rfl; rfl; rfl; omega)))
           | ((with_reducible (show evOps _ _ _ _ _ _)); first
             | (with_reducible apply go_nil))
           | ((with_reducible (show evG _ _ _ _ _)); first
             | (with_reducible apply go_seq)
             | (with_reducible apply go_region)
             | (((with_reducible apply go_cond); rfl) <;> (intro h; simp only [h]; try simp only [decide_eq_true_eq, decide_eq_false_iff_not, Bool.not_eq_true', Bool.not_eq_false', Bool.not_true, Bool.not_false] at h; try exact absurd trivial h))
             | (with_reducible apply go_skipc)
             | (with_reducible apply go_block)
             | (with_reducible apply go_exit))
           | (with_reducible apply go_kseq)
           | (with_reducible apply go_kblock)
           | (with_reducible apply go_kblock_exit)
           | (with_reducible apply go_kseq_exit)
  · have h3 : n < 3000000 := by
      rcases Int.lt_or_le n 3000000 with h | h
      · exact h
      · have := sq_mono (show (0 : Int) ≤ 3000000 by omega) h; omega
    exact ⟨n + 1, by omega, ⟨by omega, by omega⟩, entails_eq (nx := 0) (k := 0) (ns := []) (ks := [6, 5]) [] rfl (by simp) (by kernel_rfl)⟩
  refine go_while (fun n : Int => n.toNat) (fun n => ⟨[(6, .int .i64 n), (5, .int .i64 s)], [], 0, 36⟩) (fun n => (0 ≤ n ∧ n ≤ 16777216) ∧ s ≤ n * n) n
    (entails_eq (nx := 0) (k := 0) (ns := []) (ks := [6, 5]) [] rfl (by simp) (by kernel_rfl)) ⟨⟨h1, h2⟩, by omega⟩ ?_
  clear hnn hnn0 h1 h2
  rintro m ⟨⟨h1, h2⟩, h3⟩
  have hmm : 0 < m → 0 ≤ (m - 1) * (m - 1) ∧ (m - 1) * (m - 1) ≤ 281474976710656 := fun h => ⟨Int.mul_nonneg (by omega) (by omega), by have := sq_mono (show 0 ≤ m - 1 by omega) (show m - 1 ≤ 16777216 by omega); omega⟩
  by_cases h0 : 0 < m
  · have hm2 := hmm h0
    repeat' first
           | (with_reducible apply go_op)
           | (with_reducible apply go_next)
           | ((with_reducible (show evOp _ _ _ _ _ _)); first
             | ((with_reducible (show evOp _ (.move _) _ _ _ _)) ; first | ((with_reducible apply go_mv_int); rfl; rfl) | ((with_reducible apply go_mv_bool); rfl; rfl))
             | ((with_reducible apply go_as))
             | ((with_reducible (show evOp _ (.binOp _ _ _ _ _) _ _ _ _)) ; first | ((with_reducible apply go_cmp); rfl; rfl; rfl; rfl) | ((with_reducible apply go_sub); rfl; rfl; rfl; omega) | ((with_reducible apply go_mul); rfl; rfl; rfl; omega))
             | (((with_reducible apply go_pick); rfl; rfl; rfl)))
           | ((with_reducible (show evOps _ _ _ _ _ _)); first
             | (with_reducible apply go_nil)
             | ((with_reducible apply go_run); rfl; rfl)
             | ((with_reducible apply go_pass); rfl; rfl; rfl)
             | (((with_reducible apply go_guard); rfl) <;> (intro h; simp only [h, Bool.not_true, Bool.not_false]; (try with_reducible (refine ⟨rfl, ?_⟩)); try simp only [decide_eq_true_eq, decide_eq_false_iff_not, Bool.not_eq_true', Bool.not_eq_false', Bool.not_true, Bool.not_false] at h; try exact absurd trivial h)))
           | ((with_reducible (show evG _ _ _ _ _)); first
             | (with_reducible apply go_seq)
             | (with_reducible apply go_region)
             | ((with_reducible apply go_cond_f); rfl; rfl)
             | (((with_reducible apply go_cond); rfl) <;> (intro h; simp only [h]; try simp only [decide_eq_true_eq, decide_eq_false_iff_not, Bool.not_eq_true', Bool.not_eq_false', Bool.not_true, Bool.not_false] at h; try exact absurd trivial h))
             | (with_reducible apply go_ret)
             | (with_reducible apply go_skipc)
             | (with_reducible apply go_block)
             | (with_reducible apply go_exit))
           | (with_reducible apply go_kseq)
           | (with_reducible apply go_kblock)
           | (with_reducible apply go_kblock_exit)
           | (with_reducible apply go_kseq_exit)
           | ((with_reducible apply end_int); rfl)
    all_goals first
      | exact ⟨m - 1, by omega, ⟨⟨by omega, by omega⟩, by omega⟩, entails_eq (nx := 0) (k := 0) (ns := []) (ks := [6, 5]) [] rfl (by simp) (by kernel_rfl)⟩
      | exact (spanE_eq ⟨h1, h3, fun k hk1 hk2 => by have := sq_mono hk1 (show k ≤ m - 1 by omega); omega⟩).symm
      | (exfalso; omega)
      | trace_state
  · repeat' first
           | (with_reducible apply go_op)
           | (with_reducible apply go_next)
           | ((with_reducible (show evOp _ _ _ _ _ _)); first
             | ((with_reducible (show evOp _ (.move _) _ _ _ _)) ; first | ((with_reducible apply go_mv_int); rfl; rfl) | ((with_reducible apply go_mv_bool); rfl; rfl))
             | ((with_reducible apply go_as))
             | ((with_reducible (show evOp _ (.binOp _ _ _ _ _) _ _ _ _)) ; first | ((with_reducible apply go_cmp); rfl; rfl; rfl; rfl) | ((with_reducible apply go_sub); rfl; rfl; rfl; omega) | ((with_reducible apply go_mul); rfl; rfl; rfl; omega))
             | (((with_reducible apply go_pick); rfl; rfl; rfl)))
           | ((with_reducible (show evOps _ _ _ _ _ _)); first
             | (with_reducible apply go_nil)
             | ((with_reducible apply go_run); rfl; rfl)
             | ((with_reducible apply go_pass); rfl; rfl; rfl)
             | (((with_reducible apply go_guard); rfl) <;> (intro h; simp only [h, Bool.not_true, Bool.not_false]; (try with_reducible (refine ⟨rfl, ?_⟩)); try simp only [decide_eq_true_eq, decide_eq_false_iff_not, Bool.not_eq_true', Bool.not_eq_false', Bool.not_true, Bool.not_false] at h; try exact absurd trivial h)))
           | ((with_reducible (show evG _ _ _ _ _)); first
             | (with_reducible apply go_seq)
             | (with_reducible apply go_region)
             | ((with_reducible apply go_cond_f); rfl; rfl)
             | (((with_reducible apply go_cond); rfl) <;> (intro h; simp only [h]; try simp only [decide_eq_true_eq, decide_eq_false_iff_not, Bool.not_eq_true', Bool.not_eq_false', Bool.not_true, Bool.not_false] at h; try exact absurd trivial h))
             | (with_reducible apply go_ret)
             | (with_reducible apply go_skipc)
             | (with_reducible apply go_block)
             | (with_reducible apply go_exit))
           | (with_reducible apply go_kseq)
           | (with_reducible apply go_kblock)
           | (with_reducible apply go_kblock_exit)
           | (with_reducible apply go_kseq_exit)
           | ((with_reducible apply end_int); rfl)
    all_goals first
      | exact (spanE_eq ⟨h1, h3, fun k hk1 hk2 => by omega⟩).symm
      | (exfalso; omega)
      | trace_state
noncomputable def spanX (a b : Pt) : Int := if (ptOK a && ptOK b) = true then spanE (sqE a b) else 0
theorem c_Span (a b : Pt) : Contract Tryz.prog 78 [.agg (encPt a), .agg (encPt b)] (.ret (.int .i64 (spanX a b))) := by
  have h1 := c_outside_2 a b
  unfold spanX
  cases hok : ptOK a && ptOK b
  · rw [hok] at h1
    refine contract_of mix Tryz.func78 rfl rfl (by rw [Tryz.ntmps78]; exact Nat.le_of_ble_eq_true rfl) ?_; rw [Tryz.results78, Tryz.ntmps78]; simp only [argsE, Nat.reduceAdd]
    repeat' first
           | (with_reducible apply go_op)
           | (with_reducible apply go_next)
           | ((with_reducible (show evOp _ _ _ _ _ _)); first
             | (((with_reducible apply go_mv_int); rfl; rfl))
             | ((with_reducible apply go_as))
             | (((with_reducible apply go_ld_agg); rfl; rfl; rfl; rfl))
             | (((with_reducible apply go_fn_bool); (exact purL_os rfl (by simp) rfl); (exact h1); rfl))
             | (((with_reducible apply go_bx_agg); rfl; rfl; (exact Nat.le_of_ble_eq_true rfl); rfl; rfl))
             | (((with_reducible apply go_bs2_agg); rfl; rfl; rfl; rfl; rfl; rfl; rfl; rfl)))
           | ((with_reducible (show evOps _ _ _ _ _ _)); first
             | (with_reducible apply go_nil))
           | ((with_reducible (show evG _ _ _ _ _)); first
             | (with_reducible apply go_seq)
             | (with_reducible apply go_region)
             | ((with_reducible apply go_cond_t); rfl; rfl)
             | (with_reducible apply go_ret))
           | (with_reducible apply go_kseq)
           | (with_reducible apply go_kseq_ret)
           | ((with_reducible apply end_int); rfl)
    all_goals rfl
  · rw [hok] at h1
    obtain ⟨ha, hb⟩ := ok2 hok
    refine contract_of mix Tryz.func78 rfl rfl (by rw [Tryz.ntmps78]; exact Nat.le_of_ble_eq_true rfl) ?_; rw [Tryz.results78, Tryz.ntmps78]; simp only [argsE, Nat.reduceAdd]
    repeat' first
           | (with_reducible apply go_op)
           | (with_reducible apply go_next)
           | ((with_reducible (show evOp _ _ _ _ _ _)); first
             | (((with_reducible apply go_mv_int); rfl; rfl))
             | ((with_reducible apply go_as))
             | (((with_reducible apply go_ld_agg); rfl; rfl; rfl; rfl))
             | ((with_reducible (show evOp _ (.call _) _ _ _ _)) ; first | ((with_reducible apply go_fn_bool); (exact purL_os rfl (by simp) rfl); (exact h1); rfl) | ((with_reducible apply go_fn_int); rfl; (exact c_span a b ha hb); rfl))
             | (((with_reducible apply go_bx_agg); rfl; rfl; (exact Nat.le_of_ble_eq_true rfl); rfl; rfl))
             | (((with_reducible apply go_bs2_agg); rfl; rfl; rfl; rfl; rfl; rfl; rfl; rfl)))
           | ((with_reducible (show evOps _ _ _ _ _ _)); first
             | (with_reducible apply go_nil))
           | ((with_reducible (show evG _ _ _ _ _)); first
             | (with_reducible apply go_seq)
             | (with_reducible apply go_region)
             | ((with_reducible apply go_cond_f); rfl; rfl)
             | (with_reducible apply go_ret)
             | (with_reducible apply go_skipc))
           | (with_reducible apply go_kseq)
           | ((with_reducible apply end_int); rfl)
    all_goals rfl
end Go.Pv.Geo

open Go Go.Proofs Go.Pv
set_option maxHeartbeats 4000000
set_option maxRecDepth 100000
set_option linter.unusedSimpArgs false
set_option linter.unusedVariables false
namespace Go.Pv.Geo
def eqP (a b : Pt) : Bool := decide (a.x = b.x) && (decide (a.y = b.y) && true)
theorem eqP_iff {a b : Pt} : eqP a b = true ↔ a = b := by cases a; cases b; simp [eqP]
theorem sq_pos {a b : Pt} (h : eqP a b = false) : 0 < sqE a b := by
  have hne : a ≠ b := fun e => by rw [eqP_iff.2 e] at h; cases h
  have s1 : ∀ u : Int, 0 ≤ u * u := fun u => by rcases Int.le_total 0 u with h | h; exact Int.mul_nonneg h h; exact Int.mul_nonneg_of_nonpos_of_nonpos h h
  have s2 : ∀ u : Int, u ≠ 0 → 0 < u * u := fun u hu => by
    rcases Int.lt_or_gt_of_ne hu with h | h
    · exact Int.mul_pos_of_neg_of_neg h h
    · exact Int.mul_pos h h
  have h1 := s1 (b.x - a.x)
  have h2 := s1 (b.y - a.y)
  simp only [sqE, dotE]
  by_cases hx : b.x - a.x = 0
  · have hy : b.y - a.y ≠ 0 := fun hy => hne (by cases a; cases b; simp at hx hy ⊢; omega)
    have := s2 _ hy
    omega
  · have := s2 _ hx
    omega
theorem span_pos {s : Int} (h : 0 < s) (h' : s ≤ 8000000000000) : 0 < spanE s := by
  have h1 := (span_is h').1
  rcases Int.lt_or_eq_of_le h1.1 with hp | he
  · exact hp
  · have := h1.2.1
    rw [← he] at this
    omega
def lineE (a b p : Pt) : Int := if (ptOK a && ptOK b && ptOK p) = false then 2 else if eqP a b = true then 11 else 0
theorem c_lineErr (a b p : Pt) : Contract Tryz.prog 109 [.agg (encPt a), .agg (encPt b), .agg (encPt p)] (.ret (.int .i64 (lineE a b p))) := by
  have h1 := c_outside_3 a b p
  cases hok : ptOK a && ptOK b && ptOK p
  · rw [hok] at h1
    have e : lineE a b p = 2 := if_pos hok
    rw [e]
    refine contract_of mix Tryz.func109 rfl rfl (by rw [Tryz.ntmps109]; exact Nat.le_of_ble_eq_true rfl) ?_; rw [Tryz.results109, Tryz.ntmps109]; simp only [argsE, Nat.reduceAdd]
    repeat' first
           | (with_reducible apply go_op)
           | (with_reducible apply go_next)
           | ((with_reducible (show evOp _ _ _ _ _ _)); first
             | ((with_reducible (show evOp _ (.move _) _ _ _ _)) ; first | ((with_reducible apply go_mv_int); rfl; rfl) | ((with_reducible apply go_mv_bool); rfl; rfl))
             | ((with_reducible apply go_as))
             | (((with_reducible apply go_ld_agg); rfl; rfl; rfl; rfl))
             | (((with_reducible apply go_fn_bool); (exact purL_os rfl (by simp) rfl); (exact h1); rfl))
             | (((with_reducible apply go_bx_agg); rfl; rfl; (exact Nat.le_of_ble_eq_true rfl); rfl; rfl))
             | (((with_reducible apply go_bs3_agg); rfl; rfl; rfl; rfl; rfl; rfl; rfl; rfl; rfl; rfl)))
           | ((with_reducible (show evOps _ _ _ _ _ _)); first
             | (with_reducible apply go_nil))
           | ((with_reducible (show evG _ _ _ _ _)); first
             | (with_reducible apply go_seq)
             | (with_reducible apply go_region)
             | ((with_reducible apply go_cond_t); rfl; rfl)
             | (with_reducible apply go_ret)
             | (with_reducible apply go_block))
           | (with_reducible apply go_kseq)
           | (with_reducible apply go_kseq_ret)
           | (with_reducible apply go_kblock_ret)
           | ((with_reducible apply end_int); rfl)
           | (with_reducible rfl)
    all_goals rfl
  · rw [hok] at h1
    have e : lineE a b p = if eqP a b = true then 11 else 0 := if_neg (by rw [hok]; simp)
    rw [e]
    refine contract_of mix Tryz.func109 rfl rfl (by rw [Tryz.ntmps109]; exact Nat.le_of_ble_eq_true rfl) ?_; rw [Tryz.results109, Tryz.ntmps109]; simp only [argsE, Nat.reduceAdd]
    repeat' first
           | (with_reducible apply go_op)
           | (with_reducible apply go_next)
           | ((with_reducible (show evOp _ _ _ _ _ _)); first
             | ((with_reducible (show evOp _ (.move _) _ _ _ _)) ; first | ((with_reducible apply go_mv_int); rfl; rfl) | ((with_reducible apply go_mv_bool); rfl; rfl))
             | ((with_reducible apply go_as))
             | (((with_reducible apply go_ld_agg); rfl; rfl; rfl; rfl))
             | (((with_reducible apply go_eql_agg); rfl; rfl; rfl; rfl))
             | (((with_reducible apply go_fn_bool); (exact purL_os rfl (by simp) rfl); (exact h1); rfl))
             | (((with_reducible apply go_bx_agg); rfl; rfl; (exact Nat.le_of_ble_eq_true rfl); rfl; rfl))
             | (((with_reducible apply go_bs3_agg); rfl; rfl; rfl; rfl; rfl; rfl; rfl; rfl; rfl; rfl)))
           | ((with_reducible (show evOps _ _ _ _ _ _)); first
             | (with_reducible apply go_nil))
           | ((with_reducible (show evG _ _ _ _ _)); first
             | (with_reducible apply go_seq)
             | (with_reducible apply go_region)
             | ((with_reducible apply go_cond_f); rfl; rfl)
             | (((with_reducible apply go_cond); rfl) <;> (intro h; simp only [h]; try simp only [decide_eq_true_eq, decide_eq_false_iff_not, Bool.not_eq_true', Bool.not_eq_false', Bool.not_true, Bool.not_false] at h; try exact absurd trivial h))
             | (with_reducible apply go_ret)
             | (with_reducible apply go_skipc)
             | (with_reducible apply go_block))
           | (with_reducible apply go_kseq)
           | (with_reducible apply go_kseq_ret)
           | (with_reducible apply go_kblock)
           | (with_reducible apply go_kblock_ret)
           | ((with_reducible apply end_int); rfl)
    · rw [if_pos (show eqP a b = true by assumption)]
    · rw [if_neg (by rw [show eqP a b = false by assumption]; simp)]
noncomputable def offE (a b p : Pt) : Int := absE (crossE a b p) / spanE (sqE a b)
noncomputable def alongE (a b p : Pt) : Int := dotE a b p / spanE (sqE a b)
theorem mx_abs (n : Int) : max n (0 - n) = absE n := by unfold absE; split <;> omega
theorem absE_nn (n : Int) : 0 ≤ absE n := by unfold absE; split <;> omega
theorem absE_le {n B : Int} (h : -B ≤ n ∧ n ≤ B) : absE n ≤ B := by unfold absE; split <;> omega
theorem c_offset (a b p : Pt) (ha : ptOK a = true) (hb : ptOK b = true) (hp : ptOK p = true) (hne : eqP a b = false) : Contract Tryz.prog 112 [.agg (encPt a), .agg (encPt b), .agg (encPt p)] (.ret (.int .i64 (offE a b p))) := by
  have hx := c_cross a b p ha hb hp
  have hs := c_span a b ha hb
  have h1 := crossE_bd ha hb hp
  have h2 := span_pos (sq_pos hne) (sqE_bd ha hb).2
  have h3 := (span_is (sqE_bd ha hb).2).2
  unfold offE
  rw [← mx_abs]
  refine contract_of mix Tryz.func112 rfl rfl (by rw [Tryz.ntmps112]; exact Nat.le_of_ble_eq_true rfl) ?_; rw [Tryz.results112, Tryz.ntmps112]; simp only [argsE, Nat.reduceAdd]
  repeat' first
           | (with_reducible apply go_op)
           | (with_reducible apply go_next)
           | ((with_reducible (show evOp _ _ _ _ _ _)); first
             | (((with_reducible apply go_mv_int); rfl; rfl))
             | ((with_reducible apply go_as))
             | (((with_reducible apply go_ld_agg); rfl; rfl; rfl; rfl))
             | (((with_reducible apply go_quo_pos); rfl; rfl; rfl; omega))
             | ((with_reducible (show evOp _ (.call _) _ _ _ _)) ; first | ((with_reducible apply go_max); rfl; rfl; rfl) | ((with_reducible apply go_fn_int); rfl; (exact hx); rfl) | ((with_reducible apply go_fn_int); rfl; (exact hs); rfl))
             | (((with_reducible apply go_neg); rfl; rfl; omega))
             | (((with_reducible apply go_bx_agg); rfl; rfl; (exact Nat.le_of_ble_eq_true rfl); rfl; rfl)))
           | ((with_reducible (show evOps _ _ _ _ _ _)); first
             | (with_reducible apply go_nil))
           | ((with_reducible (show evG _ _ _ _ _)); first
             | (with_reducible apply go_seq)
             | (with_reducible apply go_region)
             | (with_reducible apply go_ret))
           | (with_reducible apply go_kseq)
           | ((with_reducible apply end_int); rfl)
           | (with_reducible rfl)
  all_goals trace_state
theorem c_mod (n m : Int) (hm : 0 < m) (hm' : m ≤ 1000000000000) (hn : -1000000000000000 ≤ n ∧ n ≤ 1000000000000000) : Contract Tryz.prog 143 [.int .i64 n, .int .i64 m] (.ret (.int .i64 (n % m))) := by
  have e1 := Int.emod_nonneg n (show m ≠ 0 by omega)
  have e2 := Int.emod_lt_of_pos n hm
  have e3 : n.tmod m = if 0 ≤ n ∨ m ∣ n then n % m else n % m - m := by
    rw [Int.tmod_eq_emod]
    split <;> rename_i h
    · omega
    · rw [Int.natAbs_of_nonneg (by omega)]
  refine contract_of mix Tryz.func143 rfl rfl (by rw [Tryz.ntmps143]; exact Nat.le_of_ble_eq_true rfl) ?_; rw [Tryz.results143, Tryz.ntmps143]; simp only [argsE, Nat.reduceAdd]
  repeat' first
           | (with_reducible apply go_op)
           | (with_reducible apply go_next)
           | ((with_reducible (show evOp _ _ _ _ _ _)); first
             | (((with_reducible apply go_mv_int); rfl; rfl))
             | ((with_reducible apply go_as))
             | ((with_reducible (show evOp _ (.binOp _ _ _ _ _) _ _ _ _)) ; first | ((with_reducible apply go_cmp); rfl; rfl; rfl; rfl) | ((with_reducible apply go_add); rfl; rfl; rfl; omega) | ((with_reducible apply go_rem); rfl; rfl; rfl; omega)))
           | ((with_reducible (show evOps _ _ _ _ _ _)); first
             | (with_reducible apply go_nil))
           | ((with_reducible (show evG _ _ _ _ _)); first
             | (with_reducible apply go_seq)
             | (with_reducible apply go_region)
             | (((with_reducible apply go_cond); rfl) <;> (intro h; simp only [h]; try simp only [decide_eq_true_eq, decide_eq_false_iff_not, Bool.not_eq_true', Bool.not_eq_false', Bool.not_true, Bool.not_false] at h; try exact absurd trivial h))
             | (with_reducible apply go_ret)
             | (with_reducible apply go_skipc))
           | (with_reducible apply go_kseq)
           | ((with_reducible apply end_int); rfl)
  · split at e3 <;> omega
  · split at e3 <;> omega
theorem along_lem {d s : Int} (hs : 0 < s) : (d.tdiv s * s > d → d.tdiv s - 1 = d / s) ∧ (¬ d.tdiv s * s > d → d.tdiv s = d / s) := by
  have e := Int.tdiv_eq_ediv (a := d) (b := s)
  rw [Int.sign_eq_one_of_pos hs] at e
  have e1 := Int.mul_ediv_add_emod d s
  have e2 := Int.emod_nonneg d (show s ≠ 0 by omega)
  have e3 := Int.emod_lt_of_pos d hs
  rw [Int.mul_comm] at e1
  generalize hq : d / s = q at *
  split at e
  · rename_i h
    have e4 : d.tdiv s = q := by omega
    rw [e4]
    exact ⟨fun h => by omega, fun _ => rfl⟩
  · rename_i h
    have e4 : d.tdiv s = q + 1 := by omega
    rw [e4, Int.add_mul, Int.one_mul]
    have hz : d % s ≠ 0 := fun hz => h (.inr (Int.dvd_of_emod_eq_zero hz))
    exact ⟨fun _ => by omega, fun h => by omega⟩
theorem tdiv_bd {d s B : Int} (hs : 0 < s) (h : -B ≤ d ∧ d ≤ B) : -B - 1 ≤ d.tdiv s ∧ d.tdiv s ≤ B + 1 ∧ -B ≤ d.tdiv s * s ∧ d.tdiv s * s ≤ B := by
  have hd : (d.tdiv s).natAbs ≤ d.natAbs := Int.natAbs_tdiv_le_natAbs d s
  have hm : (d.tdiv s * s).natAbs ≤ d.natAbs := by
    rw [Int.natAbs_mul, Int.natAbs_tdiv]
    exact Nat.div_mul_le_self _ _
  omega
noncomputable def offX (a b p : Pt) : Int := if lineE a b p = 0 then offE a b p else 0
noncomputable def alongX (a b p : Pt) : Int := if lineE a b p = 0 then alongE a b p else 0
theorem line_ok {a b p : Pt} (h : lineE a b p = 0) : ptOK a = true ∧ ptOK b = true ∧ ptOK p = true ∧ eqP a b = false := by
  unfold lineE at h
  (repeat' split at h) <;> first | (cases h; done) | skip
  rename_i h1 h2
  obtain ⟨x, y, z⟩ := ok3 ((Bool.eq_false_or_eq_true _).resolve_right h1)
  exact ⟨x, y, z, by simpa using h2⟩
theorem c_Offset (a b p : Pt) : Contract Tryz.prog 79 [.agg (encPt a), .agg (encPt b), .agg (encPt p)] (.ret (.tup [.int .i64 (offX a b p), .int .i64 (lineE a b p)])) := by
  have hl := c_lineErr a b p
  unfold offX
  by_cases hz : lineE a b p = 0
  · obtain ⟨ha, hb, hp, hne⟩ := line_ok hz
    have ho := c_offset a b p ha hb hp hne
    rw [if_pos hz]
    rw [hz] at hl ⊢
    refine contract_of mix Tryz.func79 rfl rfl (by rw [Tryz.ntmps79]; exact Nat.le_of_ble_eq_true rfl) ?_; rw [Tryz.results79, Tryz.ntmps79]; simp only [argsE, Nat.reduceAdd]
    repeat' first
           | (with_reducible apply go_op)
           | (with_reducible apply go_next)
           | ((with_reducible (show evOp _ _ _ _ _ _)); first
             | (((with_reducible apply go_mv_int); rfl; rfl))
             | ((with_reducible apply go_as))
             | (((with_reducible apply go_ld_agg); rfl; rfl; rfl; rfl))
             | (((with_reducible apply go_cmp); rfl; rfl; rfl; rfl))
             | ((with_reducible (show evOp _ (.call _) _ _ _ _)) ; first | ((with_reducible apply go_fn_int); rfl; (exact hl); rfl) | ((with_reducible apply go_fn_int); rfl; (exact ho); rfl))
             | (((with_reducible apply go_bx_agg); rfl; rfl; (exact Nat.le_of_ble_eq_true rfl); rfl; rfl)))
           | ((with_reducible (show evOps _ _ _ _ _ _)); first
             | (with_reducible apply go_nil))
           | ((with_reducible (show evG _ _ _ _ _)); first
             | (with_reducible apply go_seq)
             | (with_reducible apply go_region)
             | ((with_reducible apply go_cond_f); rfl; rfl)
             | (with_reducible apply go_ret)
             | (with_reducible apply go_skipc))
           | (with_reducible apply go_kseq)
           | ((with_reducible apply end_t2); rfl; rfl; rfl; rfl)
    all_goals first | rfl | (exfalso; omega)
  · rw [if_neg hz]
    refine contract_of mix Tryz.func79 rfl rfl (by rw [Tryz.ntmps79]; exact Nat.le_of_ble_eq_true rfl) ?_; rw [Tryz.results79, Tryz.ntmps79]; simp only [argsE, Nat.reduceAdd]
    repeat' first
           | (with_reducible apply go_op)
           | (with_reducible apply go_next)
           | ((with_reducible (show evOp _ _ _ _ _ _)); first
             | (((with_reducible apply go_mv_int); rfl; rfl))
             | ((with_reducible apply go_as))
             | (((with_reducible apply go_ld_agg); rfl; rfl; rfl; rfl))
             | (((with_reducible apply go_cmp); rfl; rfl; rfl; rfl))
             | (((with_reducible apply go_fn_int); rfl; (exact hl); rfl))
             | (((with_reducible apply go_bx_agg); rfl; rfl; (exact Nat.le_of_ble_eq_true rfl); rfl; rfl)))
           | ((with_reducible (show evOps _ _ _ _ _ _)); first
             | (with_reducible apply go_nil))
           | ((with_reducible (show evG _ _ _ _ _)); first
             | (with_reducible apply go_seq)
             | (with_reducible apply go_region)
             | (((with_reducible apply go_cond); rfl) <;> (intro h; simp only [h]; try simp only [decide_eq_true_eq, decide_eq_false_iff_not, Bool.not_eq_true', Bool.not_eq_false', Bool.not_true, Bool.not_false] at h; try exact absurd trivial h))
             | (with_reducible apply go_ret)
             | (with_reducible apply go_skipc))
           | (with_reducible apply go_kseq)
           | (with_reducible apply go_kseq_ret)
           | ((with_reducible apply end_t2); rfl; rfl; rfl; rfl)
    all_goals first | rfl | (exfalso; omega)
theorem c_Along (a b p : Pt) : Contract Tryz.prog 76 [.agg (encPt a), .agg (encPt b), .agg (encPt p)] (.ret (.tup [.int .i64 (alongX a b p), .int .i64 (lineE a b p)])) := by
  have hl := c_lineErr a b p
  unfold alongX
  by_cases hz : lineE a b p = 0
  · obtain ⟨ha, hb, hp, hne⟩ := line_ok hz
    have hx := c_dot a b p ha hb hp
    have hs := c_span a b ha hb
    have h1 := dotE_bd ha hb hp
    have h2 := span_pos (sq_pos hne) (sqE_bd ha hb).2
    have h3 := (span_is (sqE_bd ha hb).2).2
    have ht := tdiv_bd h2 h1
    have hlem := along_lem (d := dotE a b p) h2
    rw [if_pos hz]
    rw [hz] at hl ⊢
    unfold alongE
    refine contract_of mix Tryz.func76 rfl rfl (by rw [Tryz.ntmps76]; exact Nat.le_of_ble_eq_true rfl) ?_; rw [Tryz.results76, Tryz.ntmps76]; simp only [argsE, Nat.reduceAdd]
    repeat' first
           | (with_reducible apply go_op)
           | (with_reducible apply go_next)
           | ((with_reducible (show evOp _ _ _ _ _ _)); first
             | (((with_reducible apply go_mv_int); rfl; rfl))
             | ((with_reducible apply go_as))
             | (((with_reducible apply go_ld_agg); rfl; rfl; rfl; rfl))
             | ((with_reducible (show evOp _ (.binOp _ _ _ _ _) _ _ _ _)) ; first | ((with_reducible apply go_cmp); rfl; rfl; rfl; rfl) | ((with_reducible apply go_sub); rfl; rfl; rfl; omega) | ((with_reducible apply go_mul); rfl; rfl; rfl; omega) | ((with_reducible apply go_quo_any); rfl; rfl; rfl; omega; omega))
             | ((with_reducible (show evOp _ (.call _) _ _ _ _)) ; first | ((with_reducible apply go_fn_int); rfl; (exact hl); rfl) | ((with_reducible apply go_fn_int); rfl; (exact hx); rfl) | ((with_reducible apply go_fn_int); rfl; (exact hs); rfl))
             | (((with_reducible apply go_bx_agg); rfl; rfl; (exact Nat.le_of_ble_eq_true rfl); rfl; rfl)))
           | ((with_reducible (show evOps _ _ _ _ _ _)); first
             | (with_reducible apply go_nil)
             | ((with_reducible apply go_pre); rfl)
             | (with_reducible apply go_pre_nil)
             | ((with_reducible apply go_suf); rfl)
             | (with_reducible apply go_suf_nil))
           | ((with_reducible (show evG _ _ _ _ _)); first
             | (with_reducible apply go_seq)
             | (with_reducible apply go_region)
             | ((with_reducible apply go_cond_f); rfl; rfl)
             | (((with_reducible apply go_cond); rfl) <;> (intro h; simp only [h]; try simp only [decide_eq_true_eq, decide_eq_false_iff_not, Bool.not_eq_true', Bool.not_eq_false', Bool.not_true, Bool.not_false] at h; try exact absurd trivial h))
             | ((with_reducible apply go_order); kernel_rfl; rfl)
             | (with_reducible apply go_ret)
             | (with_reducible apply go_skipc))
           | (with_reducible apply go_kseq)
           | (with_reducible apply go_ksuf)
           | ((with_reducible apply end_t2); rfl; rfl; rfl; rfl)
    all_goals first
      | (exfalso; omega)
      | (rw [hlem.1 (by assumption)]; rfl)
      | (rw [← hlem.1 (by omega)]; rfl)
      | (rw [← hlem.2 (by assumption)]; rfl)
      | trace_state
  · rw [if_neg hz]
    refine contract_of mix Tryz.func76 rfl rfl (by rw [Tryz.ntmps76]; exact Nat.le_of_ble_eq_true rfl) ?_; rw [Tryz.results76, Tryz.ntmps76]; simp only [argsE, Nat.reduceAdd]
    repeat' first
           | (with_reducible apply go_op)
           | (with_reducible apply go_next)
           | ((with_reducible (show evOp _ _ _ _ _ _)); first
             | (((with_reducible apply go_mv_int); rfl; rfl))
             | ((with_reducible apply go_as))
             | (((with_reducible apply go_ld_agg); rfl; rfl; rfl; rfl))
             | (((with_reducible apply go_cmp); rfl; rfl; rfl; rfl))
             | (((with_reducible apply go_fn_int); rfl; (exact hl); rfl))
             | (((with_reducible apply go_bx_agg); rfl; rfl; (exact Nat.le_of_ble_eq_true rfl); rfl; rfl)))
           | ((with_reducible (show evOps _ _ _ _ _ _)); first
             | (with_reducible apply go_nil)
             | ((with_reducible apply go_pre); rfl))
           | ((with_reducible (show evG _ _ _ _ _)); first
             | (with_reducible apply go_seq)
             | (with_reducible apply go_region)
             | (((with_reducible apply go_cond); rfl) <;> (intro h; simp only [h]; try simp only [decide_eq_true_eq, decide_eq_false_iff_not, Bool.not_eq_true', Bool.not_eq_false', Bool.not_true, Bool.not_false] at h; try exact absurd trivial h))
             | ((with_reducible apply go_order); kernel_rfl; rfl)
             | (with_reducible apply go_ret)
             | (with_reducible apply go_skipc))
           | (with_reducible apply go_kseq)
           | (with_reducible apply go_kseq_ret)
           | ((with_reducible apply end_t2); rfl; rfl; rfl; rfl)
    all_goals first | rfl | (exfalso; omega)
def quarP (p : Pt) : Pt := ⟨0 - p.y, p.x⟩
theorem quar_ok {p : Pt} (h : ptOK p = true) : ptOK (quarP p) = true := by
  have := pt_bd h
  rw [ptOK, decide_eq_true_eq]
  show (-1000000 ≤ 0 - p.y ∧ 0 - p.y ≤ 1000000) ∧ (-1000000 ≤ p.x ∧ p.x ≤ 1000000)
  omega
end Go.Pv.Geo

open Go Go.Proofs Go.Pv
set_option maxHeartbeats 4000000
set_option maxRecDepth 100000
set_option linter.unusedSimpArgs false
set_option linter.unusedVariables false
namespace Go.Pv.Soil
structure Quay where
  name : ByteArray
  a : Geo.Pt
  b : Geo.Pt
  toe : Int
  run : Int
def encQuay (q : Quay) : List D := [.str q.name, .int .i64 q.a.x, .int .i64 q.a.y, .int .i64 q.b.x, .int .i64 q.b.y, .int .i64 q.toe, .int .i64 q.run]
def gP (p : Geo.Pt) : List D := [.int .i64 p.x, .int .i64 p.y]
/-- The error of a quay. -/
def quayE (q : Quay) : Int := if nameOK q.name = false then 4 else if ¬ ((Geo.ptOK q.a = true ∧ Geo.ptOK q.b = true) ∧ lvOK q.toe = true ∧ 1 ≤ q.run ∧ q.run ≤ 1000) then 2 else if Geo.eqP q.a q.b = true then 3 else 0
theorem quay_ok {q : Quay} (h : quayE q = 0) : (Geo.ptOK q.a = true ∧ Geo.ptOK q.b = true) ∧ (lvOK q.toe = true ∧ 1 ≤ q.run ∧ q.run ≤ 1000) ∧ Geo.eqP q.a q.b = false := by
  unfold quayE at h
  split at h
  · omega
  · split at h
    · omega
    · rename_i h1 h2
      split at h
      · omega
      · rename_i h3
        have h4 := Classical.not_not.1 h2
        exact ⟨h4.1, h4.2, by simpa using h3⟩
theorem p142 (p : Geo.Pt) : Contract Tryz.prog 41 [.agg [.int .i64 p.x, .int .i64 p.y]] (.ret (.bool (Geo.ptOK p))) := c142 ⟨p.x, p.y⟩
theorem p46 (p : Geo.Pt) : Contract Tryz.prog 45 [.agg [.int .i64 p.x, .int .i64 p.y]] (.ret (.bool (Geo.ptOK p))) := c46 ⟨p.x, p.y⟩
theorem c168 (q : Quay) : Contract Tryz.prog 10 [.agg (encQuay q)] (.ret (.int .i64 (quayE q))) := by
  refine contract_of mix Tryz.func10 rfl rfl (by rw [Tryz.ntmps10]; exact Nat.le_of_ble_eq_true rfl) ?_; rw [Tryz.results10, Tryz.ntmps10]; simp only [argsE, Nat.reduceAdd]
  repeat' first
           | (with_reducible apply go_op)
           | (with_reducible apply go_next)
           | ((with_reducible (show evOp _ _ _ _ _ _)); first
             | ((with_reducible (show evOp _ (.move _) _ _ _ _)) ; first | ((with_reducible apply go_mv_int); rfl; rfl) | ((with_reducible apply go_mv_bool); rfl; rfl))
             | ((with_reducible apply go_as))
             | (((with_reducible apply go_load_own); rfl; rfl; rfl; rfl))
             | (((with_reducible apply go_fieldAddr_own); rfl; rfl; rfl))
             | (((with_reducible apply go_eql_agg); rfl; rfl; rfl; rfl))
             | ((with_reducible (show evOp _ (.call _) _ _ _ _)) ; first | ((with_reducible apply go_fn_bool); rfl; (exact c137 q.name); rfl) | ((with_reducible apply go_fn_bool); rfl; (exact p142 q.a); rfl) | ((with_reducible apply go_fn_bool); rfl; (exact p142 q.b); rfl) | ((with_reducible apply go_fn_bool); rfl; (exact c114 q.toe); rfl) | ((with_reducible apply go_fn_bool); rfl; (exact c108 _ _ _); rfl))
             | (((with_reducible apply go_not); rfl; rfl))
             | (((with_reducible apply go_pick); rfl; rfl; rfl))
             | (((with_reducible apply go_bx_agg); rfl; rfl; (exact Nat.le_of_ble_eq_true rfl); rfl; rfl)))
           | ((with_reducible (show evOps _ _ _ _ _ _)); first
             | (with_reducible apply go_nil)
             | ((with_reducible apply go_run); rfl; rfl)
             | ((with_reducible apply go_pass); rfl; rfl; rfl)
             | (((with_reducible apply go_guard); rfl) <;> (intro h; simp only [h, Bool.not_true, Bool.not_false]; (try with_reducible (refine ⟨rfl, ?_⟩)); try simp only [decide_eq_true_eq, decide_eq_false_iff_not, Bool.not_eq_true', Bool.not_eq_false', Bool.not_true, Bool.not_false] at h; try exact absurd trivial h)))
           | ((with_reducible (show evG _ _ _ _ _)); first
             | (with_reducible apply go_seq)
             | (with_reducible apply go_region)
             | ((with_reducible apply go_cond_t); rfl; rfl)
             | (((with_reducible apply go_cond); rfl) <;> (intro h; simp only [h]; try simp only [decide_eq_true_eq, decide_eq_false_iff_not, Bool.not_eq_true', Bool.not_eq_false', Bool.not_true, Bool.not_false] at h; try exact absurd trivial h))
             | (with_reducible apply go_ret)
             | (with_reducible apply go_skipc)
             | (with_reducible apply go_block))
           | (with_reducible apply go_kseq)
           | (with_reducible apply go_kseq_ret)
           | (with_reducible apply go_kblock)
           | (with_reducible apply go_kblock_ret)
           | ((with_reducible apply end_int); rfl)
  all_goals first
    | (unfold quayE; simp [*, Geo.eqP]; done)
    | (unfold quayE; simp_all [Geo.eqP]; done)
    | (unfold quayE; simp_all [Geo.eqP]; omega)
    | trace_state
theorem c71 (q : Quay) : Contract Tryz.prog 11 [.agg (encQuay q)] (.ret (.int .i64 (quayE q))) := by
  refine contract_of mix Tryz.func11 rfl rfl (by rw [Tryz.ntmps11]; exact Nat.le_of_ble_eq_true rfl) ?_; rw [Tryz.results11, Tryz.ntmps11]; simp only [argsE, Nat.reduceAdd]
  repeat' first
           | (with_reducible apply go_op)
           | (with_reducible apply go_next)
           | ((with_reducible (show evOp _ _ _ _ _ _)); first
             | ((with_reducible (show evOp _ (.move _) _ _ _ _)) ; first | ((with_reducible apply go_mv_int); rfl; rfl) | ((with_reducible apply go_mv_bool); rfl; rfl))
             | ((with_reducible apply go_as))
             | (((with_reducible apply go_load_own); rfl; rfl; rfl; rfl))
             | (((with_reducible apply go_fieldAddr_own); rfl; rfl; rfl))
             | (((with_reducible apply go_eql_agg); rfl; rfl; rfl; rfl))
             | ((with_reducible (show evOp _ (.call _) _ _ _ _)) ; first | ((with_reducible apply go_fn_bool); rfl; (exact c83 q.name); rfl) | ((with_reducible apply go_fn_bool); rfl; (exact p46 q.a); rfl) | ((with_reducible apply go_fn_bool); rfl; (exact p46 q.b); rfl) | ((with_reducible apply go_fn_bool); rfl; (exact c48 q.toe); rfl) | ((with_reducible apply go_fn_bool); rfl; (exact c38 _ _ _); rfl))
             | (((with_reducible apply go_not); rfl; rfl))
             | (((with_reducible apply go_pick); rfl; rfl; rfl))
             | (((with_reducible apply go_bx_agg); rfl; rfl; (exact Nat.le_of_ble_eq_true rfl); rfl; rfl)))
           | ((with_reducible (show evOps _ _ _ _ _ _)); first
             | (with_reducible apply go_nil)
             | ((with_reducible apply go_run); rfl; rfl)
             | ((with_reducible apply go_pass); rfl; rfl; rfl)
             | (((with_reducible apply go_guard); rfl) <;> (intro h; simp only [h, Bool.not_true, Bool.not_false]; (try with_reducible (refine ⟨rfl, ?_⟩)); try simp only [decide_eq_true_eq, decide_eq_false_iff_not, Bool.not_eq_true', Bool.not_eq_false', Bool.not_true, Bool.not_false] at h; try exact absurd trivial h)))
           | ((with_reducible (show evG _ _ _ _ _)); first
             | (with_reducible apply go_seq)
             | (with_reducible apply go_region)
             | ((with_reducible apply go_cond_t); rfl; rfl)
             | (((with_reducible apply go_cond); rfl) <;> (intro h; simp only [h]; try simp only [decide_eq_true_eq, decide_eq_false_iff_not, Bool.not_eq_true', Bool.not_eq_false', Bool.not_true, Bool.not_false] at h; try exact absurd trivial h))
             | (with_reducible apply go_ret)
             | (with_reducible apply go_skipc))
           | (with_reducible apply go_kseq)
           | (with_reducible apply go_kseq_ret)
           | ((with_reducible apply end_int); rfl)
  all_goals first
    | (unfold quayE; simp [*, Geo.eqP]; done)
    | (unfold quayE; simp_all [Geo.eqP]; done)
    | (unfold quayE; simp_all [Geo.eqP]; omega)
    | trace_state
end Go.Pv.Soil

open Go Go.Proofs Go.Pv
set_option maxHeartbeats 4000000
set_option maxRecDepth 100000
set_option linter.unusedSimpArgs false
set_option linter.unusedVariables false
namespace Go.Pv.Soil
/-- The level of a quay's wedge at a place in front of it. -/
noncomputable def wedgeL (q : Quay) (p : Geo.Pt) : Int := q.toe - (10 * Geo.offE q.a q.b p) / q.run
def frontE (q : Quay) (p : Geo.Pt) : Prop := (0 ≤ Geo.crossE q.a q.b p ∧ 0 ≤ Geo.alongE q.a q.b p) ∧ Geo.alongE q.a q.b p ≤ Geo.spanE (Geo.sqE q.a q.b)
open Classical in
noncomputable def wedgeE (q : Quay) (p : Geo.Pt) : Int × Bool := if frontE q p then (wedgeL q p, decide (-20000 ≤ wedgeL q p)) else (0, false)
theorem off_bd {a b p : Geo.Pt} (ha : Geo.ptOK a = true) (hb : Geo.ptOK b = true) (hp : Geo.ptOK p = true) : 0 ≤ Geo.offE a b p ∧ Geo.offE a b p ≤ 8000000000000 := by
  have h1 := Geo.crossE_bd ha hb hp
  have h2 := Geo.absE_nn (Geo.crossE a b p)
  have h3 := Geo.absE_le (B := 8000000000000) (n := Geo.crossE a b p) h1
  have h4 := (Geo.span_is (Geo.sqE_bd ha hb).2).1.1
  unfold Geo.offE
  refine ⟨Int.ediv_nonneg h2 h4, ?_⟩
  exact Int.le_trans (Int.ediv_le_self _ h2) h3
theorem c170 (q : Quay) (hq : quayE q = 0) (p : Geo.Pt) (hp : Geo.ptOK p = true) : Contract Tryz.prog 37 [.agg (encQuay q), .agg (gP p)] (.ret (.tup [.int .i64 (wedgeE q p).1, .bool (wedgeE q p).2])) := by
  obtain ⟨⟨ka, kb⟩, ⟨kt, kr⟩, hne⟩ := quay_ok hq
  have hl : Geo.lineE q.a q.b p = 0 := by unfold Geo.lineE; simp [ka, kb, hp, hne]
  have x1 : Contract Tryz.prog 76 [.agg (gP q.a), .agg (gP q.b), .agg (gP p)] (.ret (.tup [.int .i64 (Geo.alongE q.a q.b p), .int .i64 0])) := by
    have := Geo.c_Along q.a q.b p
    rw [Geo.alongX, if_pos hl, hl] at this
    exact this
  have x2 : Contract Tryz.prog 79 [.agg (gP q.a), .agg (gP q.b), .agg (gP p)] (.ret (.tup [.int .i64 (Geo.offE q.a q.b p), .int .i64 0])) := by
    have := Geo.c_Offset q.a q.b p
    rw [Geo.offX, if_pos hl, hl] at this
    exact this
  have x3 : Contract Tryz.prog 77 [.agg (gP q.a), .agg (gP q.b), .agg (gP p)] (.ret (.int .i64 (Geo.crossE q.a q.b p))) := by
    have := Geo.c_Cross q.a q.b p
    rw [show Geo.crossX q.a q.b p = Geo.crossE q.a q.b p by unfold Geo.crossX; simp [ka, kb, hp]] at this
    exact this
  have x4 : Contract Tryz.prog 78 [.agg (gP q.a), .agg (gP q.b)] (.ret (.int .i64 (Geo.spanE (Geo.sqE q.a q.b)))) := by
    have := Geo.c_Span q.a q.b
    rw [show Geo.spanX q.a q.b = Geo.spanE (Geo.sqE q.a q.b) by unfold Geo.spanX; simp [ka, kb]] at this
    exact this
  have ho := off_bd ka kb hp
  have ht : -20000 ≤ q.toe ∧ q.toe ≤ 20000 := by simpa [lvOK] using kt
  have hd : 0 ≤ 10 * Geo.offE q.a q.b p / q.run := Int.ediv_nonneg (by omega) (by omega)
  have hd2 : 10 * Geo.offE q.a q.b p / q.run ≤ 80000000000000 := Int.le_trans (Int.ediv_le_self _ (by omega)) (by omega)
  unfold gP at x1 x2 x3 x4
  refine contract_of mix Tryz.func37 rfl rfl (by rw [Tryz.ntmps37]; exact Nat.le_of_ble_eq_true rfl) ?_; rw [Tryz.results37, Tryz.ntmps37]; simp only [argsE, Nat.reduceAdd]
  repeat' first
           | (with_reducible apply go_op)
           | (with_reducible apply go_next)
           | ((with_reducible (show evOp _ _ _ _ _ _)); first
             | ((with_reducible (show evOp _ (.move _) _ _ _ _)) ; first | ((with_reducible apply go_mv_int); rfl; rfl) | ((with_reducible apply go_mv_bool); rfl; rfl) | ((with_reducible apply go_mv_tup); rfl; rfl))
             | ((with_reducible apply go_as))
             | ((with_reducible (show evOp _ (.load _ _) _ _ _ _)) ; first | ((with_reducible apply go_ld_agg); rfl; rfl; rfl; rfl) | ((with_reducible apply go_load_own); rfl; rfl; rfl; rfl))
             | (((with_reducible apply go_fieldAddr_own); rfl; rfl; rfl))
             | ((with_reducible (show evOp _ (.binOp _ _ _ _ _) _ _ _ _)) ; first | ((with_reducible apply go_cmp); rfl; rfl; rfl; rfl) | ((with_reducible apply go_sub); rfl; rfl; rfl; omega) | ((with_reducible apply go_mul); rfl; rfl; rfl; omega) | ((with_reducible apply go_quo_pos); rfl; rfl; rfl; omega))
             | ((with_reducible (show evOp _ (.call _) _ _ _ _)) ; first | ((with_reducible apply go_fn_plain); rfl; (exact x1); rfl; (exact Nat.le_of_ble_eq_true rfl); rfl) | ((with_reducible apply go_fn_int); rfl; (exact x3); rfl) | ((with_reducible apply go_fn_int); rfl; (exact x4); rfl) | ((with_reducible apply go_fn_plain); rfl; (exact x2); rfl; (exact Nat.le_of_ble_eq_true rfl); rfl))
             | (((with_reducible apply go_extract); rfl; rfl))
             | (((with_reducible apply go_pick); rfl; rfl; rfl))
             | (((with_reducible apply go_bx_agg); rfl; rfl; (exact Nat.le_of_ble_eq_true rfl); rfl; rfl)))
           | ((with_reducible (show evOps _ _ _ _ _ _)); first
             | (with_reducible apply go_nil)
             | ((with_reducible apply go_run); rfl; rfl)
             | ((with_reducible apply go_pass); rfl; rfl; rfl)
             | (((with_reducible apply go_guard); rfl) <;> (intro h; simp only [h, Bool.not_true, Bool.not_false]; (try with_reducible (refine ⟨rfl, ?_⟩)); try simp only [decide_eq_true_eq, decide_eq_false_iff_not, Bool.not_eq_true', Bool.not_eq_false', Bool.not_true, Bool.not_false] at h; try exact absurd trivial h))
             | ((with_reducible apply go_pre); rfl)
             | (with_reducible apply go_pre_nil)
             | ((with_reducible apply go_suf); rfl)
             | (with_reducible apply go_suf_nil))
           | ((with_reducible (show evG _ _ _ _ _)); first
             | (with_reducible apply go_seq)
             | (with_reducible apply go_region)
             | ((with_reducible apply go_cond_t); rfl; rfl)
             | (((with_reducible apply go_cond); rfl) <;> (intro h; simp only [h]; try simp only [decide_eq_true_eq, decide_eq_false_iff_not, Bool.not_eq_true', Bool.not_eq_false', Bool.not_true, Bool.not_false] at h; try exact absurd trivial h))
             | ((with_reducible apply go_order); kernel_rfl; rfl)
             | (with_reducible apply go_ret)
             | (with_reducible apply go_skipc))
           | (with_reducible apply go_kseq)
           | (with_reducible apply go_ksuf)
           | (with_reducible apply go_kseq_ret)
           | ((with_reducible apply end_t2); rfl; rfl; rfl; rfl)
  all_goals first
    | (rw [show wedgeE q p = (0, false) from if_neg (by unfold frontE; omega)]; rfl)
    | (rw [show wedgeE q p = (wedgeL q p, decide (-20000 ≤ wedgeL q p)) from if_pos (by unfold frontE; omega)]; rfl)
    | (exfalso; omega)
    | trace_state
end Go.Pv.Soil

open Go Go.Proofs Go.Pv
set_option maxHeartbeats 1000000
set_option maxRecDepth 100000
set_option linter.unusedSimpArgs false
set_option linter.unusedVariables false
namespace Go.Pv.Soil

structure Ground where
  soils : List Soil
  borings : List Boring
def encGround (g : Ground) : List D := [.sl (g.soils.map encSoil), .sl (g.borings.map encBor)]

def layE (l : List Soil) (ls : List Layer) (i : Nat) : Int :=
  match ls[i]? with
  | none => 0
  | some x => if lvOK x.top = false then 2 else if 0 < i ∧ ((ls[i - 1]?).map (·.top)).getD 0 ≤ x.top then 9 else if ofName l x.soil < 0 then 6 else 0

def borE (l : List Soil) (b : Boring) : Int :=
  if ptOK ⟨b.x, b.y⟩ = false then 2 else if b.layers.length = 0 then 10 else if 12 < b.layers.length then 8 else firstE b.layers.length (layE l b.layers)

theorem layE_is {l : List Soil} {ls : List Layer} {i : Nat} (hi : i < ls.length) : layE l ls i = if lvOK ls[i].top = false then 2 else if 0 < i ∧ ((ls[i - 1]?).map (·.top)).getD 0 ≤ ls[i].top then 9 else if ofName l ls[i].soil < 0 then 6 else 0 := by
  simp only [layE, List.getElem?_eq_getElem hi]

theorem layE_2 {l : List Soil} {ls : List Layer} {i : Nat} (hi : i < ls.length) (h : lvOK ls[i].top = false) : layE l ls i = 2 := by rw [layE_is hi, if_pos h]
theorem layE_9 {l : List Soil} {ls : List Layer} {i : Nat} (hi : i < ls.length) (h1 : lvOK ls[i].top = true) (h2 : 0 < i) (h3 : (ls[i - 1]'(by omega)).top ≤ ls[i].top) : layE l ls i = 9 := by
  rw [layE_is hi, if_neg (by simp [h1]), if_pos ⟨h2, by rw [List.getElem?_eq_getElem (by omega)]; exact h3⟩]
theorem layE_6 {l : List Soil} {ls : List Layer} {i : Nat} (hi : i < ls.length) (h1 : lvOK ls[i].top = true) (h2 : i = 0 ∨ ∃ h : i - 1 < ls.length, ¬ ls[i - 1].top ≤ ls[i].top) (h : ofName l ls[i].soil < 0) : layE l ls i = 6 := by
  rw [layE_is hi, if_neg (by simp [h1]), if_neg, if_pos h]
  rintro ⟨h3, h4⟩
  rcases h2 with h2 | ⟨h5, h2⟩
  · omega
  · rw [List.getElem?_eq_getElem h5] at h4; exact h2 h4
theorem layE_0 {l : List Soil} {ls : List Layer} {i : Nat} (hi : i < ls.length) (h1 : lvOK ls[i].top = true) (h2 : i = 0 ∨ ∃ h : i - 1 < ls.length, ¬ ls[i - 1].top ≤ ls[i].top) (h : ¬ ofName l ls[i].soil < 0) : layE l ls i = 0 := by
  rw [layE_is hi, if_neg (by simp [h1]), if_neg, if_neg h]
  rintro ⟨h3, h4⟩
  rcases h2 with h2 | ⟨h5, h2⟩
  · omega
  · rw [List.getElem?_eq_getElem h5] at h4; exact h2 h4

theorem lay_at {l : List Soil} {ls : List Layer} {i : Nat} {e : Int} (hi : i < ls.length) (hC : ∀ j, j < i → layE l ls j = 0) (h : layE l ls i = e) (he : e ≠ 0) : e = firstE ls.length (layE l ls) := by
  subst h
  exact (firstE_at hi hC he).symm
theorem lay_step {l : List Soil} {ls : List Layer} {i : Nat} (hC : ∀ j, j < i → layE l ls j = 0) (h : layE l ls i = 0) : ∀ j, j < i + 1 → layE l ls j = 0 := fun j hj => by
  rcases Nat.lt_succ_iff_lt_or_eq.1 hj with h' | rfl
  · exact hC j h'
  · exact h

theorem c88 (g : Ground) (b : Boring) (hl : g.soils.length < 1000000000000) : Contract Tryz.prog 134 [.agg (encGround g), .agg (encBor b)] (.ret (.int .i64 (borE g.soils b))) := by
  refine contract_of mix Tryz.func134 rfl rfl (by rw [Tryz.ntmps134]; exact Nat.le_of_ble_eq_true rfl) ?_; rw [Tryz.results134, Tryz.ntmps134]; simp only [argsE, Nat.reduceAdd]
  repeat' first
           | (with_reducible apply go_op)
           | (with_reducible apply go_next)
           | ((with_reducible (show evOp _ _ _ _ _ _)); first
             | ((with_reducible (show evOp _ (.move _) _ _ _ _)) ; first | ((with_reducible apply go_mv_int); rfl; rfl) | ((with_reducible apply go_mv_bool); rfl; rfl))
             | ((with_reducible apply go_as))
             | (((with_reducible apply go_load_own); rfl; rfl; rfl; rfl))
             | (((with_reducible apply go_fieldAddr_own); rfl; rfl; rfl))
             | (((with_reducible apply go_cmp); rfl; rfl; rfl; rfl))
             | ((with_reducible (show evOp _ (.call _) _ _ _ _)) ; first | ((with_reducible apply go_len); rfl; rfl) | ((with_reducible apply go_fn_bool); rfl; (exact c142 ⟨b.x, b.y⟩); rfl))
             | (((with_reducible apply go_not); rfl; rfl))
             | (((with_reducible apply go_build); rfl; rfl))
             | (((with_reducible apply go_bx_agg); rfl; rfl; (exact Nat.le_of_ble_eq_true rfl); rfl; rfl)))
           | ((with_reducible (show evOps _ _ _ _ _ _)); first
             | (with_reducible apply go_nil))
           | ((with_reducible (show evG _ _ _ _ _)); first
             | (with_reducible apply go_seq)
             | (with_reducible apply go_region)
             | (((with_reducible apply go_cond); rfl) <;> (intro h; simp only [h]; try simp only [decide_eq_true_eq, decide_eq_false_iff_not, Bool.not_eq_true', Bool.not_eq_false', Bool.not_true, Bool.not_false] at h; try exact absurd trivial h))
             | (with_reducible apply go_ret)
             | (with_reducible apply go_skipc)
             | (with_reducible apply go_block))
           | (with_reducible apply go_kseq)
           | (with_reducible apply go_kseq_ret)
           | (with_reducible apply go_kblock)
           | (with_reducible apply go_kblock_ret)
           | ((with_reducible apply end_int); rfl)
  · simp only [borE]; rw [if_pos h]
  · rename_i h1
    simp only [borE]; rw [if_neg (by simp [h1]), if_pos (by omega)]
  · rename_i h1 h2
    simp only [borE]; rw [if_neg (by simp [h1]), if_neg (by omega), if_pos (by omega)]
  rename_i h1 h2
  have hb : borE g.soils b = firstE b.layers.length (layE g.soils b.layers) := by
    simp only [borE]; rw [if_neg (by simp [h1]), if_neg (by omega), if_neg (by omega)]
  rw [hb]
  refine go_count b.layers.length (fun i => ⟨[(28, .int .i64 i), (27, .int .i64 b.layers.length), (26, .sl (b.layers.map encLayer)), (3, .op 32 0 0), (2, .op 0 0 0)], [(32, ⟨4, true, [encBor b]⟩), (0, ⟨2, true, [encGround g]⟩)], 64, 62⟩) (fun i => ∀ j, j < i → layE g.soils b.layers j = 0)
    (entails_eq (k := 0) (ns := []) (ks := [28, 27, 26, 3, 2]) [(32, 32), (0, 0)] rfl (by simp) rfl) (by omega) ?_
  intro i hi hC
  repeat' first
           | (with_reducible apply go_op)
           | (with_reducible apply go_next)
           | ((with_reducible (show evOp _ _ _ _ _ _)); first
             | ((with_reducible (show evOp _ (.move _) _ _ _ _)) ; first | ((with_reducible apply go_mv_int); rfl; rfl) | ((with_reducible apply go_mv_bool); rfl; rfl))
             | ((with_reducible apply go_as))
             | ((with_reducible (show evOp _ (.load _ _) _ _ _ _)) ; first | ((with_reducible apply go_load); rfl; rfl; rfl) | ((with_reducible apply go_load_own); rfl; rfl; rfl; rfl))
             | ((with_reducible (show evOp _ (.fieldAddr _ _ _) _ _ _ _)) ; first | ((with_reducible apply go_fieldAddr); rfl; rfl) | ((with_reducible apply go_fieldAddr_own); rfl; rfl; rfl))
             | (((with_reducible apply go_index); rfl; rfl; (intro; rfl); rfl; omega; intro hlt))
             | ((with_reducible (show evOp _ (.binOp _ _ _ _ _) _ _ _ _)) ; first | ((with_reducible apply go_cmp); rfl; rfl; rfl; rfl) | ((with_reducible apply go_add); rfl; rfl; rfl; omega) | ((with_reducible apply go_sub); rfl; rfl; rfl; omega))
             | ((with_reducible (show evOp _ (.call _) _ _ _ _)) ; first | ((with_reducible apply go_fn_bool); rfl; (exact c114 _); rfl) | ((with_reducible apply go_fn_int); rfl; (exact c102 g.soils hl _); rfl))
             | (((with_reducible apply go_st_agg); rfl; rfl; rfl; rfl; rfl; rfl; rfl))
             | (((with_reducible apply go_not); rfl; rfl))
             | (((with_reducible apply go_pick); rfl; rfl; rfl))
             | (((with_reducible apply go_alloc); rfl; rfl; rfl)))
           | ((with_reducible (show evOps _ _ _ _ _ _)); first
             | (with_reducible apply go_nil)
             | ((with_reducible apply go_run); rfl; rfl)
             | ((with_reducible apply go_pass); rfl; rfl; rfl)
             | (((with_reducible apply go_guard); rfl) <;> (intro h; simp only [h, Bool.not_true, Bool.not_false]; (try with_reducible (refine ⟨rfl, ?_⟩)); try simp only [decide_eq_true_eq, decide_eq_false_iff_not, Bool.not_eq_true', Bool.not_eq_false', Bool.not_true, Bool.not_false] at h; try exact absurd trivial h))
             | ((with_reducible apply go_pre); rfl)
             | (with_reducible apply go_pre_nil)
             | ((with_reducible apply go_suf); rfl)
             | (with_reducible apply go_suf_nil))
           | ((with_reducible (show evG _ _ _ _ _)); first
             | (with_reducible apply go_seq)
             | (with_reducible apply go_region)
             | ((with_reducible apply go_cond_f); rfl; rfl)
             | (((with_reducible apply go_cond); rfl) <;> (intro h; simp only [h]; try simp only [decide_eq_true_eq, decide_eq_false_iff_not, Bool.not_eq_true', Bool.not_eq_false', Bool.not_true, Bool.not_false] at h; try exact absurd trivial h))
             | ((with_reducible apply go_order); kernel_rfl; rfl)
             | (with_reducible apply go_ret)
             | (with_reducible apply go_skipc)
             | (with_reducible apply go_block)
             | (with_reducible apply go_exit))
           | (with_reducible apply go_kseq)
           | (with_reducible apply go_ksuf)
           | (with_reducible apply go_kseq_ret)
           | (with_reducible apply go_kblock)
           | (with_reducible apply go_kblock_ret)
           | (with_reducible apply go_kblock_exit)
           | (with_reducible apply go_kseq_exit)
           | ((with_reducible apply end_int); rfl)
  all_goals try simp only [Int.toNat_natCast, show ((i : Int) - 1).toNat = i - 1 by omega] at *
  all_goals first
    | exact (firstE_zero fun j hj => hC j (by omega)).symm
    | (have h3 : i < b.layers.length := by omega
       first
         | exact lay_at h3 hC (layE_2 h3 (by assumption)) (by decide)
         | exact lay_at h3 hC (layE_9 h3 (by assumption) (by omega) (by assumption)) (by decide)
         | exact lay_at h3 hC (layE_6 h3 (by assumption) (.inl (by omega)) (by assumption)) (by decide)
         | exact lay_at h3 hC (layE_6 h3 (by assumption) (.inr ⟨by omega, by assumption⟩) (by assumption)) (by decide)
         | exact ⟨h3, lay_step hC (layE_0 h3 (by assumption) (.inl (by omega)) (by assumption)), entails_eq (k := 0) (ns := []) (ks := [28, 27, 26, 3, 2]) [(32, 32), (0, 0)] rfl (by simp) rfl⟩
         | exact ⟨h3, lay_step hC (layE_0 h3 (by assumption) (.inr ⟨by omega, by assumption⟩) (by assumption)), entails_eq (k := 0) (ns := []) (ks := [28, 27, 26, 3, 2]) [(32, 32), (0, 0)] rfl (by simp) rfl⟩)
end Go.Pv.Soil

open Go Go.Proofs Go.Pv
set_option maxHeartbeats 1000000
set_option maxRecDepth 100000
set_option linter.unusedSimpArgs false
set_option linter.unusedVariables false
namespace Go.Pv.Soil

end Go.Pv.Soil

open Go Go.Proofs Go.Pv
set_option maxHeartbeats 1000000
set_option maxRecDepth 100000
set_option linter.unusedSimpArgs false
set_option linter.unusedVariables false
namespace Go.Pv.Soil

theorem stabG (gr : Ground) : StabF [.agg (encGround gr)] := fun hp m ds ds' h => by
  show (pur hp (m + 16) (.agg (encGround gr))).bind _ = _
  have : pur hp (m + 16) (.agg (encGround gr)) = some (.agg (encGround gr)) := rfl
  rw [this]
  simp only [Option.bind_some]
  show (purL hp (m + 16) ([] ++ ds)).map _ = _
  rw [List.nil_append, h]
  rfl

theorem c86g (l : List Boring) (hl : l.length < 1000000000000) (g : FuncId) (gr : Ground) (nm : Boring → ByteArray) (er : Boring → Int) (hn : ∀ x, Contract Tryz.prog g [.agg (encBor x)] (.ret (.str (nm x)))) (he : ∀ x, Contract Tryz.prog 134 [.agg (encGround gr), .agg (encBor x)] (.ret (.int .i64 (er x)))) :
    Contract Tryz.prog 132 [.sl (l.map encBor), .clo (.func g) [] [], .clo (.func 134) [.agg (encGround gr)] []] (.ret (.int .i64 (eachE nm er l))) := by
  refine contract_of mix Tryz.func132 rfl rfl (by rw [Tryz.ntmps132]; exact Nat.le_of_ble_eq_true rfl) ?_; rw [Tryz.results132, Tryz.ntmps132]; simp only [argsE, Nat.reduceAdd]
  repeat' first
           | (with_reducible apply go_op)
           | (with_reducible apply go_next)
           | ((with_reducible (show evOp _ _ _ _ _ _)); first
             | ((with_reducible (show evOp _ (.move _) _ _ _ _)) ; first | ((with_reducible apply go_mv_int); rfl; rfl) | ((with_reducible apply go_mv_sl); rfl; rfl))
             | ((with_reducible apply go_as))
             | (((with_reducible apply go_len); rfl; rfl))
             | (((with_reducible apply go_bx_clo); rfl; rfl)))
           | ((with_reducible (show evOps _ _ _ _ _ _)); first
             | (with_reducible apply go_nil))
           | ((with_reducible (show evG _ _ _ _ _)); first
             | (with_reducible apply go_seq)
             | (with_reducible apply go_region)
             | (with_reducible apply go_block))
           | (with_reducible apply go_kseq)
  refine go_count l.length (fun i => ⟨[(13, .int .i64 i), (12, .int .i64 l.length), (11, .sl (l.map encBor)), (0, .sl (l.map encBor)), (2, .clo (.func 134) [.agg (encGround gr)] []), (4, .op 0 0 0)], [(0, ⟨1, false, [[.clo (.func g) [] []]]⟩)], 32, 36⟩) (fun i => ∀ j, j < i → stepE nm er l j = 0) (entails_eq (k := 0) (ns := []) (ks := [13, 12, 11, 0, 2, 4]) [(0, 0)] rfl (by simp) rfl) (by omega) ?_
  intro i hi hC
  repeat' first
           | (with_reducible apply go_op)
           | (with_reducible apply go_next)
           | ((with_reducible (show evOp _ _ _ _ _ _)); first
             | (((with_reducible apply go_mv_int); rfl; rfl))
             | ((with_reducible apply go_as))
             | ((with_reducible (show evOp _ (.load _ _) _ _ _ _)) ; first | ((with_reducible apply go_load); rfl; rfl; rfl) | ((with_reducible apply go_load_own); rfl; rfl; rfl; rfl))
             | (((with_reducible apply go_index); rfl; rfl; (intro; rfl); rfl; omega; intro hlt))
             | (((with_reducible apply go_cmp); rfl; rfl; rfl; rfl))
             | (((with_reducible apply go_st_agg); rfl; rfl; rfl; rfl; rfl; rfl; rfl))
             | (((with_reducible apply go_alloc); rfl; rfl; rfl)))
           | ((with_reducible (show evOps _ _ _ _ _ _)); first
             | (with_reducible apply go_nil))
           | ((with_reducible (show evG _ _ _ _ _)); first
             | (with_reducible apply go_seq)
             | (with_reducible apply go_region)
             | (((with_reducible apply go_cond); rfl) <;> (intro h; simp only [h]; try simp only [decide_eq_true_eq, decide_eq_false_iff_not, Bool.not_eq_true', Bool.not_eq_false', Bool.not_true, Bool.not_false] at h; try exact absurd trivial h))
             | (with_reducible apply go_ret)
             | (with_reducible apply go_skipc)
             | (with_reducible apply go_block)
             | (with_reducible apply go_exit))
           | (with_reducible apply go_kseq)
           | (with_reducible apply go_kblock_exit)
           | (with_reducible apply go_kseq_exit)
           | ((with_reducible apply end_int); rfl)
  refine go_clo_str (d1 := .agg (encBor l[i])) rfl rfl (fun _ _ => rfl) (hn _) rfl ?_
  repeat' first
           | (with_reducible apply go_op)
           | (with_reducible apply go_next)
           | ((with_reducible (show evOp _ _ _ _ _ _)); first
             | (((with_reducible apply go_load_own); rfl; rfl; rfl; rfl))
             | (((with_reducible apply go_st_str); rfl; rfl; rfl))
             | (((with_reducible apply go_alloc); rfl; rfl; rfl)))
           | ((with_reducible (show evOps _ _ _ _ _ _)); first
             | (with_reducible apply go_nil))
           | ((with_reducible (show evG _ _ _ _ _)); first
             | (with_reducible apply go_seq)
             | (with_reducible apply go_region))
           | (with_reducible apply go_kseq)
  refine go_fn_bool (args' := [.str (nm l[i])]) rfl (c137 _) rfl ?_
  repeat' first
           | (with_reducible apply go_op)
           | (with_reducible apply go_next)
           | ((with_reducible (show evOp _ _ _ _ _ _)); first
             | ((with_reducible (show evOp _ (.move _) _ _ _ _)) ; first | ((with_reducible apply go_mv_int); rfl; rfl) | ((with_reducible apply go_mv_sl); rfl; rfl))
             | ((with_reducible apply go_as))
             | (((with_reducible apply go_take_sl); rfl; rfl; (intro; rfl); rfl; omega))
             | (((with_reducible apply go_not); rfl; rfl))
             | (((with_reducible apply go_fn2); rfl; rfl; rfl)))
           | ((with_reducible (show evOps _ _ _ _ _ _)); first
             | (with_reducible apply go_nil))
           | ((with_reducible (show evG _ _ _ _ _)); first
             | (with_reducible apply go_seq)
             | (with_reducible apply go_region)
             | (((with_reducible apply go_cond); rfl) <;> (intro h; simp only [h]; try simp only [decide_eq_true_eq, decide_eq_false_iff_not, Bool.not_eq_true', Bool.not_eq_false', Bool.not_true, Bool.not_false] at h; try exact absurd trivial h))
             | (with_reducible apply go_ret)
             | (with_reducible apply go_skipc))
           | (with_reducible apply go_kseq)
           | (with_reducible apply go_kseq_ret)
           | (with_reducible apply go_kblock_ret)
           | ((with_reducible apply end_int); rfl)
  · have h2 : i < l.length := by omega
    exact each_at h2 hC (by simp [stepE, h2, h]) (by decide)
  refine go_fn_bool (args' := [.sl ((l.take i).map encBor), .clo (.func 152) [] [.ptr [.clo (.func g) [] []], .ptr [.str (nm l[i])]]]) rfl (c140 (l.take i) (by simp; omega) 152 _ (fun _ _ => rfl) rfl (fun y => decide (nm y = nm l[i])) fun y _ => c141 y _ _ g (hn y)) rfl ?_
  repeat' first
           | (with_reducible apply go_op)
           | (with_reducible apply go_next)
           | ((with_reducible (show evOp _ _ _ _ _ _)); first
             | ((with_reducible (show evOp _ (.move _) _ _ _ _)) ; first | ((with_reducible apply go_mv_int); rfl; rfl) | ((with_reducible apply go_mv_clo); rfl; rfl))
             | ((with_reducible apply go_as))
             | (((with_reducible apply go_load_own); rfl; rfl; rfl; rfl)))
           | ((with_reducible (show evOps _ _ _ _ _ _)); first
             | (with_reducible apply go_nil))
           | ((with_reducible (show evG _ _ _ _ _)); first
             | (with_reducible apply go_seq)
             | (with_reducible apply go_region)
             | (((with_reducible apply go_cond); rfl) <;> (intro h; simp only [h]; try simp only [decide_eq_true_eq, decide_eq_false_iff_not, Bool.not_eq_true', Bool.not_eq_false', Bool.not_true, Bool.not_false] at h; try exact absurd trivial h))
             | (with_reducible apply go_ret)
             | (with_reducible apply go_skipc))
           | (with_reducible apply go_kseq)
           | (with_reducible apply go_kseq_ret)
           | (with_reducible apply go_kblock_ret)
           | ((with_reducible apply end_int); rfl)
  · rename_i h1 _
    have h2 : i < l.length := by omega
    exact each_at h2 hC (by simp only [stepE, List.getElem?_eq_getElem h2, h, *]; simp) (by decide)
  refine go_call_bound (xs := [.agg (encGround gr)]) (d1 := .agg (encBor l[i])) (Nat.le_of_ble_eq_true rfl) rfl (fun _ => rfl) (stabG gr) (he _) rfl (Nat.le_of_ble_eq_true rfl) rfl ?_
  repeat' first
           | (with_reducible apply go_op)
           | (with_reducible apply go_next)
           | ((with_reducible (show evOp _ _ _ _ _ _)); first
             | (((with_reducible apply go_mv_int); rfl; rfl))
             | ((with_reducible apply go_as))
             | ((with_reducible (show evOp _ (.binOp _ _ _ _ _) _ _ _ _)) ; first | ((with_reducible apply go_cmp); rfl; rfl; rfl; rfl) | ((with_reducible apply go_add); rfl; rfl; rfl; omega)))
           | ((with_reducible (show evOps _ _ _ _ _ _)); first
             | (with_reducible apply go_nil))
           | ((with_reducible (show evG _ _ _ _ _)); first
             | (with_reducible apply go_seq)
             | (with_reducible apply go_region)
             | (((with_reducible apply go_cond); rfl) <;> (intro h; simp only [h]; try simp only [decide_eq_true_eq, decide_eq_false_iff_not, Bool.not_eq_true', Bool.not_eq_false', Bool.not_true, Bool.not_false] at h; try exact absurd trivial h))
             | (with_reducible apply go_ret)
             | (with_reducible apply go_skipc))
           | (with_reducible apply go_kseq)
           | (with_reducible apply go_kseq_ret)
           | (with_reducible apply go_kblock)
           | (with_reducible apply go_kblock_ret)
           | ((with_reducible apply end_int); rfl)
  · have h2 : i < l.length := by omega
    exact each_at h2 hC (by simp only [stepE, List.getElem?_eq_getElem h2, *]; simp) h
  · have h2 : i < l.length := by omega
    refine ⟨h2, fun j hj => ?_, entails_eq (k := 0) (ns := []) (ks := [13, 12, 11, 0, 2, 4]) [(0, 0)] rfl (by simp) rfl⟩
    rcases Nat.lt_succ_iff_lt_or_eq.1 hj with h' | rfl
    · exact hC j h'
    · simp only [stepE, List.getElem?_eq_getElem h2, *]; simp
  · refine (firstE_zero fun j hj => hC j (by omega)).symm

end Go.Pv.Soil

open Go Go.Proofs Go.Pv
set_option maxHeartbeats 1000000
set_option maxRecDepth 100000
set_option linter.unusedSimpArgs false
set_option linter.unusedVariables false
namespace Go.Pv.Soil

theorem c87' (x : Boring) : Contract Tryz.prog 133 [.agg (encBor x)] (.ret (.str x.name)) := c87 x

def groundE (g : Ground) : Int := if soilsE g.soils ≠ 0 then soilsE g.soils else if g.borings.length = 0 then 10 else if 20 < g.borings.length then 8 else eachE (·.name) (borE g.soils) g.borings

theorem c22 (g : Ground) (hl : g.soils.length < 1000000000000) (hb : g.borings.length < 1000000000000) : Contract Tryz.prog 100 [.agg (encGround g)] (.ret (.int .i64 (groundE g))) := by
  refine contract_of mix Tryz.func100 rfl rfl (by rw [Tryz.ntmps100]; exact Nat.le_of_ble_eq_true rfl) ?_; rw [Tryz.results100, Tryz.ntmps100]; simp only [argsE, Nat.reduceAdd]
  repeat' first
           | (with_reducible apply go_op)
           | (with_reducible apply go_next)
           | ((with_reducible (show evOp _ _ _ _ _ _)); first
             | (((with_reducible apply go_mv_int); rfl; rfl))
             | ((with_reducible apply go_as))
             | (((with_reducible apply go_load_own); rfl; rfl; rfl; rfl))
             | (((with_reducible apply go_fieldAddr_own); rfl; rfl; rfl))
             | (((with_reducible apply go_cmp); rfl; rfl; rfl; rfl))
             | ((with_reducible (show evOp _ (.call _) _ _ _ _)) ; first | ((with_reducible apply go_len); rfl; rfl) | ((with_reducible apply go_fn_int); rfl; (exact c20 g.soils hl); rfl))
             | (((with_reducible apply go_build); rfl; rfl))
             | (((with_reducible apply go_bx_agg); rfl; rfl; (exact Nat.le_of_ble_eq_true rfl); rfl; rfl)))
           | ((with_reducible (show evOps _ _ _ _ _ _)); first
             | (with_reducible apply go_nil))
           | ((with_reducible (show evG _ _ _ _ _)); first
             | (with_reducible apply go_seq)
             | (with_reducible apply go_region)
             | (((with_reducible apply go_cond); rfl) <;> (intro h; simp only [h]; try simp only [decide_eq_true_eq, decide_eq_false_iff_not, Bool.not_eq_true', Bool.not_eq_false', Bool.not_true, Bool.not_false] at h; try exact absurd trivial h))
             | (with_reducible apply go_ret)
             | (with_reducible apply go_skipc))
           | (with_reducible apply go_kseq)
           | (with_reducible apply go_kseq_ret)
           | ((with_reducible apply end_int); rfl)
  · simp only [groundE]; rw [if_pos h]
  · simp only [groundE]; rw [if_neg (by simp [*]), if_pos (by omega)]
  · simp only [groundE]; rw [if_neg (by simp [*]), if_neg (by omega), if_pos (by omega)]
  refine go_fn (us := [.agg (encGround g)]) (bs := []) rfl rfl rfl ?_
  repeat' first
           | (with_reducible apply go_op)
           | (with_reducible apply go_next)
  refine go_fn_int (args' := [.sl (g.borings.map encBor), .clo (.func 133) [] [], .clo (.func 134) [.agg (encGround g)] []]) rfl (c86g g.borings hb 133 g (·.name) (borE g.soils) c87 fun x => c88 g x hl) rfl ?_
  repeat' first
           | (with_reducible apply go_op)
           | (with_reducible apply go_next)
           | ((with_reducible (show evOp _ _ _ _ _ _)); first
             | (((with_reducible apply go_mv_int); rfl; rfl))
             | ((with_reducible apply go_as)))
           | ((with_reducible (show evOps _ _ _ _ _ _)); first
             | (with_reducible apply go_nil))
           | ((with_reducible (show evG _ _ _ _ _)); first
             | (with_reducible apply go_ret))
           | (with_reducible apply go_kseq)
           | ((with_reducible apply end_int); rfl)
  simp only [groundE]; rw [if_neg (by simp [*]), if_neg (by omega), if_neg (by omega)]
end Go.Pv.Soil

open Go Go.Proofs Go.Pv
set_option maxHeartbeats 1000000
set_option maxRecDepth 100000
set_option linter.unusedSimpArgs false
set_option linter.unusedVariables false
namespace Go.Pv.Soil

def encInt (n : Int) : List D := [.int .i64 n]

theorem c165 (l : List Int) (hl : l.length < 1000000000000) (g : FuncId) (p : Int → Bool) (hf : ∀ x ∈ l, Contract Tryz.prog g [.int .i64 x] (.ret (.bool (p x)))) :
    Contract Tryz.prog 90 [.sl (l.map encInt), .clo (.func g) [] []] (.ret (.int .i64 (idxOf p l))) := by
  refine contract_of mix Tryz.func90 rfl rfl (by rw [Tryz.ntmps90]; exact Nat.le_of_ble_eq_true rfl) ?_; rw [Tryz.results90, Tryz.ntmps90]; simp only [argsE, Nat.reduceAdd]
  repeat' first
           | (with_reducible apply go_op)
           | (with_reducible apply go_next)
           | ((with_reducible (show evOp _ _ _ _ _ _)); first
             | ((with_reducible (show evOp _ (.move _) _ _ _ _)) ; first | ((with_reducible apply go_mv_int); rfl; rfl) | ((with_reducible apply go_mv_sl); rfl; rfl))
             | ((with_reducible apply go_as))
             | (((with_reducible apply go_len); rfl; rfl)))
           | ((with_reducible (show evOps _ _ _ _ _ _)); first
             | (with_reducible apply go_nil))
           | ((with_reducible (show evG _ _ _ _ _)); first
             | (with_reducible apply go_seq)
             | (with_reducible apply go_region)
             | (with_reducible apply go_block))
           | (with_reducible apply go_kseq)
  refine go_count (l.length) (fun i => ⟨[(8, .int .i64 i), (7, .int .i64 l.length), (0, .sl (l.map encInt)), (1, .clo (.func g) [] [])], [], 0, 19⟩) (fun i => ∀ j (hj : j < i) (hj' : j < l.length), p l[j] = false) (entails_eq (k := 0) (ns := []) (ks := [8, 7, 0, 1]) [] rfl (by simp) rfl) (by omega) ?_
  intro i hi hC
  repeat' first
           | (with_reducible apply go_op)
           | (with_reducible apply go_next)
           | ((with_reducible (show evOp _ _ _ _ _ _)); first
             | ((with_reducible (show evOp _ (.move _) _ _ _ _)) ; first | ((with_reducible apply go_mv_int); rfl; rfl) | ((with_reducible apply go_mv_sl); rfl; rfl) | ((with_reducible apply go_mv_clo); rfl; rfl))
             | ((with_reducible apply go_as))
             | (((with_reducible apply go_load); rfl; rfl; rfl))
             | (((with_reducible apply go_index); rfl; rfl; (intro; rfl); rfl; omega; intro hlt))
             | (((with_reducible apply go_cmp); rfl; rfl; rfl; rfl)))
           | ((with_reducible (show evOps _ _ _ _ _ _)); first
             | (with_reducible apply go_nil))
           | ((with_reducible (show evG _ _ _ _ _)); first
             | (with_reducible apply go_seq)
             | (with_reducible apply go_region)
             | (((with_reducible apply go_cond); rfl) <;> (intro h; simp only [h]; try simp only [decide_eq_true_eq, decide_eq_false_iff_not, Bool.not_eq_true', Bool.not_eq_false', Bool.not_true, Bool.not_false] at h; try exact absurd trivial h))
             | (with_reducible apply go_ret)
             | (with_reducible apply go_skipc)
             | (with_reducible apply go_block)
             | (with_reducible apply go_exit))
           | (with_reducible apply go_kseq)
           | (with_reducible apply go_kblock_exit)
           | (with_reducible apply go_kseq_exit)
           | ((with_reducible apply end_int); rfl)
  · refine go_clo_bool rfl rfl (fun _ _ => rfl) (hf l[i] (List.getElem_mem _)) rfl ?_
    repeat' first
           | (with_reducible apply go_op)
           | (with_reducible apply go_next)
           | ((with_reducible (show evOp _ _ _ _ _ _)); first
             | (((with_reducible apply go_mv_int); rfl; rfl))
             | ((with_reducible apply go_as))
             | (((with_reducible apply go_add); rfl; rfl; rfl; omega)))
           | ((with_reducible (show evOps _ _ _ _ _ _)); first
             | (with_reducible apply go_nil))
           | ((with_reducible (show evG _ _ _ _ _)); first
             | (with_reducible apply go_seq)
             | (with_reducible apply go_region)
             | (((with_reducible apply go_cond); rfl) <;> (intro h; simp only [h]; try simp only [decide_eq_true_eq, decide_eq_false_iff_not, Bool.not_eq_true', Bool.not_eq_false', Bool.not_true, Bool.not_false] at h; try exact absurd trivial h))
             | (with_reducible apply go_ret)
             | (with_reducible apply go_skipc))
           | (with_reducible apply go_kseq)
           | (with_reducible apply go_kseq_ret)
           | (with_reducible apply go_kblock)
           | (with_reducible apply go_kblock_ret)
           | ((with_reducible apply end_int); rfl)
    · have h2 : i < l.length := by omega
      exact (idxOf_some h2 h fun j hj => hC j hj (by omega)).symm
    · have h2 : i < l.length := by omega
      refine ⟨by omega, fun j hj hj' => ?_, entails_eq (k := 0) (ns := []) (ks := [8, 7, 0, 1]) [] rfl (by simp) rfl⟩
      rcases Nat.lt_succ_iff_lt_or_eq.1 hj with h' | rfl
      · exact hC j h' hj'
      · exact h
  · refine (idxOf_none fun x hx => ?_).symm
    obtain ⟨j, hj, rfl⟩ := List.mem_iff_getElem.1 hx
    exact hC j (by omega) hj

theorem c124 (l : List Int) (hl : l.length < 1000000000000) (g : FuncId) (p : Int → Bool) (hf : ∀ x ∈ l, Contract Tryz.prog g [.int .i64 x] (.ret (.bool (p x)))) :
    Contract Tryz.prog 61 [.sl (l.map encInt), .clo (.func g) [] []] (.ret (.bool (l.any p))) := by
  refine contract_of mix Tryz.func61 rfl rfl (by rw [Tryz.ntmps61]; exact Nat.le_of_ble_eq_true rfl) ?_; rw [Tryz.results61, Tryz.ntmps61]; simp only [argsE, Nat.reduceAdd]
  repeat' first
           | (with_reducible apply go_op)
           | (with_reducible apply go_next)
           | ((with_reducible (show evOp _ _ _ _ _ _)); first
             | ((with_reducible (show evOp _ (.move _) _ _ _ _)) ; first | ((with_reducible apply go_mv_bool); rfl; rfl) | ((with_reducible apply go_mv_sl); rfl; rfl) | ((with_reducible apply go_mv_clo); rfl; rfl))
             | ((with_reducible apply go_as))
             | (((with_reducible apply go_cmp); rfl; rfl; rfl; rfl))
             | (((with_reducible apply go_fn_int); rfl; (exact c165 l hl g p hf); rfl)))
           | ((with_reducible (show evOps _ _ _ _ _ _)); first
             | (with_reducible apply go_nil))
           | ((with_reducible (show evG _ _ _ _ _)); first
             | (with_reducible apply go_seq)
             | (with_reducible apply go_region)
             | (with_reducible apply go_ret))
           | (with_reducible apply go_kseq)
           | ((with_reducible apply end_bool); rfl)
  exact idxOf_ge
theorem c147 (n : Int) : Contract Tryz.prog 101 [.int .i64 n] (.ret (.bool (!lvOK n))) := by
  refine contract_of mix Tryz.func101 rfl rfl (by rw [Tryz.ntmps101]; exact Nat.le_of_ble_eq_true rfl) ?_; rw [Tryz.results101, Tryz.ntmps101]; simp only [argsE, Nat.reduceAdd]
  repeat' first
           | (with_reducible apply go_op)
           | (with_reducible apply go_next)
           | ((with_reducible (show evOp _ _ _ _ _ _)); first
             | ((with_reducible (show evOp _ (.move _) _ _ _ _)) ; first | ((with_reducible apply go_mv_int); rfl; rfl) | ((with_reducible apply go_mv_bool); rfl; rfl))
             | ((with_reducible apply go_as))
             | (((with_reducible apply go_fn_bool); rfl; (exact c114 _); rfl))
             | (((with_reducible apply go_not); rfl; rfl)))
           | ((with_reducible (show evOps _ _ _ _ _ _)); first
             | (with_reducible apply go_nil))
           | ((with_reducible (show evG _ _ _ _ _)); first
             | (with_reducible apply go_seq)
             | (with_reducible apply go_region)
             | (with_reducible apply go_ret))
           | (with_reducible apply go_kseq)
           | ((with_reducible apply end_bool); rfl)
           | (with_reducible rfl)

/-- The error of a ground, a place and levels. -/
def askedE (g : Ground) (p : Pt) (l : List Int) : Int := if groundE g ≠ 0 then groundE g else if ptOK p = false ∨ (l.any fun n => !lvOK n) = true then 2 else 0

theorem c96 (g : Ground) (hs : g.soils.length < 1000000000000) (hb : g.borings.length < 1000000000000) (p : Pt) (l : List Int) (hl : l.length < 1000000000000) :
    Contract Tryz.prog 69 [.agg (encGround g), .agg (encPt p), .sl (l.map encInt)] (.ret (.int .i64 (askedE g p l))) := by
  refine contract_of mix Tryz.func69 rfl rfl (by rw [Tryz.ntmps69]; exact Nat.le_of_ble_eq_true rfl) ?_; rw [Tryz.results69, Tryz.ntmps69]; simp only [argsE, Nat.reduceAdd]
  repeat' first
           | (with_reducible apply go_op)
           | (with_reducible apply go_next)
           | ((with_reducible (show evOp _ _ _ _ _ _)); first
             | ((with_reducible (show evOp _ (.move _) _ _ _ _)) ; first | ((with_reducible apply go_mv_int); rfl; rfl) | ((with_reducible apply go_mv_bool); rfl; rfl) | ((with_reducible apply go_mv_sl); rfl; rfl))
             | ((with_reducible apply go_as))
             | (((with_reducible apply go_ld_agg); rfl; rfl; rfl; rfl))
             | (((with_reducible apply go_cmp); rfl; rfl; rfl; rfl))
             | ((with_reducible (show evOp _ (.call _) _ _ _ _)) ; first | ((with_reducible apply go_fn_int); rfl; (exact c22 g hs hb); rfl) | ((with_reducible apply go_fn_bool); rfl; (exact c142 p); rfl) | ((with_reducible apply go_fn_bool); rfl; (exact c124 l hl 101 (fun n => !lvOK n) fun x _ => c147 x); rfl))
             | (((with_reducible apply go_not); rfl; rfl))
             | (((with_reducible apply go_pick); rfl; rfl; rfl))
             | (((with_reducible apply go_bx_agg); rfl; rfl; (exact Nat.le_of_ble_eq_true rfl); rfl; rfl)))
           | ((with_reducible (show evOps _ _ _ _ _ _)); first
             | (with_reducible apply go_nil)
             | ((with_reducible apply go_run); rfl; rfl)
             | ((with_reducible apply go_pass); rfl; rfl; rfl)
             | (((with_reducible apply go_guard); rfl) <;> (intro h; simp only [h, Bool.not_true, Bool.not_false]; (try with_reducible (refine ⟨rfl, ?_⟩)); try simp only [decide_eq_true_eq, decide_eq_false_iff_not, Bool.not_eq_true', Bool.not_eq_false', Bool.not_true, Bool.not_false] at h; try exact absurd trivial h)))
           | ((with_reducible (show evG _ _ _ _ _)); first
             | (with_reducible apply go_seq)
             | (with_reducible apply go_region)
             | ((with_reducible apply go_cond_t); rfl; rfl)
             | (((with_reducible apply go_cond); rfl) <;> (intro h; simp only [h]; try simp only [decide_eq_true_eq, decide_eq_false_iff_not, Bool.not_eq_true', Bool.not_eq_false', Bool.not_true, Bool.not_false] at h; try exact absurd trivial h))
             | (with_reducible apply go_ret)
             | (with_reducible apply go_skipc))
           | (with_reducible apply go_kseq)
           | (with_reducible apply go_kseq_ret)
           | ((with_reducible apply end_int); rfl)
  all_goals simp only [askedE]
  all_goals simp_all

theorem pt_no {p : Pt} (h : ¬ ((-1000000 ≤ p.x ∧ p.x ≤ 1000000) ∧ (-1000000 ≤ p.y ∧ p.y ≤ 1000000))) : true = !ptOK p := by
  simp only [ptOK, decide_eq_false h, Bool.not_false]
theorem pt_yes {p : Pt} (h : (-1000000 ≤ p.x ∧ p.x ≤ 1000000) ∧ (-1000000 ≤ p.y ∧ p.y ≤ 1000000)) : false = !ptOK p := by
  simp only [ptOK, decide_eq_true h, Bool.not_true]
theorem c172 (p : Pt) : Contract Tryz.prog 96 [.agg (encPt p)] (.ret (.bool (!ptOK p))) := by
  refine contract_of mix Tryz.func96 rfl rfl (by rw [Tryz.ntmps96]; exact Nat.le_of_ble_eq_true rfl) ?_; rw [Tryz.results96, Tryz.ntmps96]; simp only [argsE, Nat.reduceAdd]
  repeat' first
           | (with_reducible apply go_op)
           | (with_reducible apply go_next)
           | ((with_reducible (show evOp _ _ _ _ _ _)); first
             | (((with_reducible apply go_mv_bool); rfl; rfl))
             | ((with_reducible apply go_as))
             | (((with_reducible apply go_load_own); rfl; rfl; rfl; rfl))
             | (((with_reducible apply go_fieldAddr_own); rfl; rfl; rfl))
             | (((with_reducible apply go_cmp); rfl; rfl; rfl; rfl))
             | (((with_reducible apply go_pick); rfl; rfl; rfl))
             | (((with_reducible apply go_bx_agg); rfl; rfl; (exact Nat.le_of_ble_eq_true rfl); rfl; rfl)))
           | ((with_reducible (show evOps _ _ _ _ _ _)); first
             | (with_reducible apply go_nil)
             | ((with_reducible apply go_run); rfl; rfl)
             | ((with_reducible apply go_pass); rfl; rfl; rfl)
             | (((with_reducible apply go_guard); rfl) <;> (intro h; simp only [h, Bool.not_true, Bool.not_false]; (try with_reducible (refine ⟨rfl, ?_⟩)); try simp only [decide_eq_true_eq, decide_eq_false_iff_not, Bool.not_eq_true', Bool.not_eq_false', Bool.not_true, Bool.not_false] at h; try exact absurd trivial h)))
           | ((with_reducible (show evG _ _ _ _ _)); first
             | (with_reducible apply go_seq)
             | (with_reducible apply go_region)
             | (with_reducible apply go_ret))
           | (with_reducible apply go_kseq)
           | ((with_reducible apply end_bool); rfl)
  · by_cases h4 : 1000000 < p.y
    · rw [decide_eq_true h4]; exact pt_no (p := p) (by omega)
    · rw [decide_eq_false h4]; exact pt_yes (p := p) (by omega)
  all_goals exact pt_no (p := p) (by omega)

theorem c196 (l : List Pt) (hl : l.length < 1000000000000) (g : FuncId) (p : Pt → Bool) (hf : ∀ x ∈ l, Contract Tryz.prog g [.agg (encPt x)] (.ret (.bool (p x)))) :
    Contract Tryz.prog 130 [.sl (l.map encPt), .clo (.func g) [] []] (.ret (.int .i64 (idxOf p l))) := by
  refine contract_of mix Tryz.func130 rfl rfl (by rw [Tryz.ntmps130]; exact Nat.le_of_ble_eq_true rfl) ?_; rw [Tryz.results130, Tryz.ntmps130]; simp only [argsE, Nat.reduceAdd]
  repeat' first
           | (with_reducible apply go_op)
           | (with_reducible apply go_next)
           | ((with_reducible (show evOp _ _ _ _ _ _)); first
             | ((with_reducible (show evOp _ (.move _) _ _ _ _)) ; first | ((with_reducible apply go_mv_int); rfl; rfl) | ((with_reducible apply go_mv_sl); rfl; rfl))
             | ((with_reducible apply go_as))
             | (((with_reducible apply go_len); rfl; rfl)))
           | ((with_reducible (show evOps _ _ _ _ _ _)); first
             | (with_reducible apply go_nil))
           | ((with_reducible (show evG _ _ _ _ _)); first
             | (with_reducible apply go_seq)
             | (with_reducible apply go_region)
             | (with_reducible apply go_block))
           | (with_reducible apply go_kseq)
  refine go_count (l.length) (fun i => ⟨[(8, .int .i64 i), (7, .int .i64 l.length), (0, .sl (l.map encPt)), (1, .clo (.func g) [] [])], [], 0, 19⟩) (fun i => ∀ j (hj : j < i) (hj' : j < l.length), p l[j] = false) (entails_eq (k := 0) (ns := []) (ks := [8, 7, 0, 1]) [] rfl (by simp) rfl) (by omega) ?_
  intro i hi hC
  repeat' first
           | (with_reducible apply go_op)
           | (with_reducible apply go_next)
           | ((with_reducible (show evOp _ _ _ _ _ _)); first
             | ((with_reducible (show evOp _ (.move _) _ _ _ _)) ; first | ((with_reducible apply go_mv_int); rfl; rfl) | ((with_reducible apply go_mv_sl); rfl; rfl) | ((with_reducible apply go_mv_clo); rfl; rfl))
             | ((with_reducible apply go_as))
             | (((with_reducible apply go_load); rfl; rfl; rfl))
             | (((with_reducible apply go_index); rfl; rfl; (intro; rfl); rfl; omega; intro hlt))
             | (((with_reducible apply go_cmp); rfl; rfl; rfl; rfl)))
           | ((with_reducible (show evOps _ _ _ _ _ _)); first
             | (with_reducible apply go_nil))
           | ((with_reducible (show evG _ _ _ _ _)); first
             | (with_reducible apply go_seq)
             | (with_reducible apply go_region)
             | (((with_reducible apply go_cond); rfl) <;> (intro h; simp only [h]; try simp only [decide_eq_true_eq, decide_eq_false_iff_not, Bool.not_eq_true', Bool.not_eq_false', Bool.not_true, Bool.not_false] at h; try exact absurd trivial h))
             | (with_reducible apply go_ret)
             | (with_reducible apply go_skipc)
             | (with_reducible apply go_block)
             | (with_reducible apply go_exit))
           | (with_reducible apply go_kseq)
           | (with_reducible apply go_kblock_exit)
           | (with_reducible apply go_kseq_exit)
           | ((with_reducible apply end_int); rfl)
  · refine go_clo_bool (d1 := .agg (encPt l[i])) rfl rfl (fun _ _ => rfl) (hf l[i] (List.getElem_mem _)) rfl ?_
    repeat' first
           | (with_reducible apply go_op)
           | (with_reducible apply go_next)
           | ((with_reducible (show evOp _ _ _ _ _ _)); first
             | (((with_reducible apply go_mv_int); rfl; rfl))
             | ((with_reducible apply go_as))
             | (((with_reducible apply go_add); rfl; rfl; rfl; omega)))
           | ((with_reducible (show evOps _ _ _ _ _ _)); first
             | (with_reducible apply go_nil))
           | ((with_reducible (show evG _ _ _ _ _)); first
             | (with_reducible apply go_seq)
             | (with_reducible apply go_region)
             | (((with_reducible apply go_cond); rfl) <;> (intro h; simp only [h]; try simp only [decide_eq_true_eq, decide_eq_false_iff_not, Bool.not_eq_true', Bool.not_eq_false', Bool.not_true, Bool.not_false] at h; try exact absurd trivial h))
             | (with_reducible apply go_ret)
             | (with_reducible apply go_skipc))
           | (with_reducible apply go_kseq)
           | (with_reducible apply go_kseq_ret)
           | (with_reducible apply go_kblock)
           | (with_reducible apply go_kblock_ret)
           | ((with_reducible apply end_int); rfl)
    · have h2 : i < l.length := by omega
      exact (idxOf_some h2 h fun j hj => hC j hj (by omega)).symm
    · have h2 : i < l.length := by omega
      refine ⟨by omega, fun j hj hj' => ?_, entails_eq (k := 0) (ns := []) (ks := [8, 7, 0, 1]) [] rfl (by simp) rfl⟩
      rcases Nat.lt_succ_iff_lt_or_eq.1 hj with h' | rfl
      · exact hC j h' hj'
      · exact h
  · refine (idxOf_none fun x hx => ?_).symm
    obtain ⟨j, hj, rfl⟩ := List.mem_iff_getElem.1 hx
    exact hC j (by omega) hj
theorem c171 (l : List Pt) (hl : l.length < 1000000000000) (g : FuncId) (p : Pt → Bool) (hf : ∀ x ∈ l, Contract Tryz.prog g [.agg (encPt x)] (.ret (.bool (p x)))) :
    Contract Tryz.prog 95 [.sl (l.map encPt), .clo (.func g) [] []] (.ret (.bool (l.any p))) := by
  refine contract_of mix Tryz.func95 rfl rfl (by rw [Tryz.ntmps95]; exact Nat.le_of_ble_eq_true rfl) ?_; rw [Tryz.results95, Tryz.ntmps95]; simp only [argsE, Nat.reduceAdd]
  repeat' first
           | (with_reducible apply go_op)
           | (with_reducible apply go_next)
           | ((with_reducible (show evOp _ _ _ _ _ _)); first
             | ((with_reducible (show evOp _ (.move _) _ _ _ _)) ; first | ((with_reducible apply go_mv_bool); rfl; rfl) | ((with_reducible apply go_mv_sl); rfl; rfl) | ((with_reducible apply go_mv_clo); rfl; rfl))
             | ((with_reducible apply go_as))
             | (((with_reducible apply go_cmp); rfl; rfl; rfl; rfl))
             | (((with_reducible apply go_fn_int); rfl; (exact c196 l hl g p hf); rfl)))
           | ((with_reducible (show evOps _ _ _ _ _ _)); first
             | (with_reducible apply go_nil))
           | ((with_reducible (show evG _ _ _ _ _)); first
             | (with_reducible apply go_seq)
             | (with_reducible apply go_region)
             | (with_reducible apply go_ret))
           | (with_reducible apply go_kseq)
           | ((with_reducible apply end_bool); rfl)
  exact idxOf_ge
theorem c128 (l : List Pt) (hl : l.length < 1000000000000) : Contract Tryz.prog 67 [.sl (l.map encPt)] (.ret (.bool (l.any fun p => !ptOK p))) := by
  refine contract_of mix Tryz.func67 rfl rfl (by rw [Tryz.ntmps67]; exact Nat.le_of_ble_eq_true rfl) ?_; rw [Tryz.results67, Tryz.ntmps67]; simp only [argsE, Nat.reduceAdd]
  repeat' first
           | (with_reducible apply go_op)
           | (with_reducible apply go_next)
           | ((with_reducible (show evOp _ _ _ _ _ _)); first
             | ((with_reducible (show evOp _ (.move _) _ _ _ _)) ; first | ((with_reducible apply go_mv_bool); rfl; rfl) | ((with_reducible apply go_mv_sl); rfl; rfl))
             | ((with_reducible apply go_as))
             | (((with_reducible apply go_fn_bool); rfl; (exact c171 l hl 96 (fun p => !ptOK p) fun x _ => c172 x); rfl)))
           | ((with_reducible (show evOps _ _ _ _ _ _)); first
             | (with_reducible apply go_nil))
           | ((with_reducible (show evG _ _ _ _ _)); first
             | (with_reducible apply go_seq)
             | (with_reducible apply go_region)
             | (with_reducible apply go_ret))
           | (with_reducible apply go_kseq)
           | ((with_reducible apply end_bool); rfl)
           | (with_reducible rfl)

/-- The scalar product of b - a and c - a. -/
def dotE (a b c : Pt) : Int := (b.x - a.x) * (c.x - a.x) + (b.y - a.y) * (c.y - a.y)
def sqE (a b : Pt) : Int := (b.x - a.x) * (b.x - a.x) + (b.y - a.y) * (b.y - a.y)

theorem ptOK_bd {p : Pt} (h : ptOK p = true) : (-1000000 ≤ p.x ∧ p.x ≤ 1000000) ∧ (-1000000 ≤ p.y ∧ p.y ≤ 1000000) := by
  simpa [ptOK] using h
theorem prod_bd {a b m : Int} (hm : 0 ≤ m) (ha : -m ≤ a ∧ a ≤ m) (hb : -m ≤ b ∧ b ≤ m) : -(m * m) ≤ a * b ∧ a * b ≤ m * m := by
  have h : (a * b).natAbs ≤ (m * m).natAbs := by
    rw [Int.natAbs_mul, Int.natAbs_mul]
    exact Nat.mul_le_mul (by omega) (by omega)
  have h2 : ((m * m).natAbs : Int) = m * m := Int.natAbs_of_nonneg (Int.mul_nonneg hm hm)
  omega
theorem prod4 {a b : Int} (ha : -2000000 ≤ a ∧ a ≤ 2000000) (hb : -2000000 ≤ b ∧ b ≤ 2000000) : -4000000000000 ≤ a * b ∧ a * b ≤ 4000000000000 := by
  have := prod_bd (m := 2000000) (by omega) ha hb; omega

theorem c133 (a b c : Pt) (ha : ptOK a = true) (hb : ptOK b = true) (hc : ptOK c = true) : Contract Tryz.prog 110 [.agg (encPt a), .agg (encPt b), .agg (encPt c)] (.ret (.int .i64 (dotE a b c))) := by
  have h1 := ptOK_bd ha
  have h2 := ptOK_bd hb
  have h3 := ptOK_bd hc
  have m1 := prod4 (a := b.x - a.x) (b := c.x - a.x) (by omega) (by omega)
  have m2 := prod4 (a := b.y - a.y) (b := c.y - a.y) (by omega) (by omega)
  refine contract_of mix Tryz.func110 rfl rfl (by rw [Tryz.ntmps110]; exact Nat.le_of_ble_eq_true rfl) ?_; rw [Tryz.results110, Tryz.ntmps110]; simp only [argsE, Nat.reduceAdd]
  repeat' first
           | (with_reducible apply go_op)
           | (with_reducible apply go_next)
           | ((with_reducible (show evOp _ _ _ _ _ _)); first
             | (((with_reducible apply go_mv_int); rfl; rfl))
             | ((with_reducible apply go_as))
             | (((with_reducible apply go_load_own); rfl; rfl; rfl; rfl))
             | (((with_reducible apply go_fieldAddr_own); rfl; rfl; rfl))
             | ((with_reducible (show evOp _ (.binOp _ _ _ _ _) _ _ _ _)) ; first | ((with_reducible apply go_add); rfl; rfl; rfl; omega) | ((with_reducible apply go_sub); rfl; rfl; rfl; omega) | ((with_reducible apply go_mul); rfl; rfl; rfl; omega))
             | (((with_reducible apply go_bx_agg); rfl; rfl; (exact Nat.le_of_ble_eq_true rfl); rfl; rfl)))
           | ((with_reducible (show evOps _ _ _ _ _ _)); first
             | (with_reducible apply go_nil))
           | ((with_reducible (show evG _ _ _ _ _)); first
             | (with_reducible apply go_seq)
             | (with_reducible apply go_region)
             | (with_reducible apply go_ret))
           | (with_reducible apply go_kseq)
           | ((with_reducible apply end_int); rfl)
  rfl
theorem c149 (a b c : Pt) (ha : ptOK a = true) (hb : ptOK b = true) (hc : ptOK c = true) : Contract Tryz.prog 118 [.agg (encPt a), .agg (encPt b), .agg (encPt c)] (.ret (.int .i64 (dotE a b c))) := by
  have h1 := ptOK_bd ha
  have h2 := ptOK_bd hb
  have h3 := ptOK_bd hc
  have m1 := prod4 (a := b.x - a.x) (b := c.x - a.x) (by omega) (by omega)
  have m2 := prod4 (a := b.y - a.y) (b := c.y - a.y) (by omega) (by omega)
  refine contract_of mix Tryz.func118 rfl rfl (by rw [Tryz.ntmps118]; exact Nat.le_of_ble_eq_true rfl) ?_; rw [Tryz.results118, Tryz.ntmps118]; simp only [argsE, Nat.reduceAdd]
  repeat' first
           | (with_reducible apply go_op)
           | (with_reducible apply go_next)
           | ((with_reducible (show evOp _ _ _ _ _ _)); first
             | (((with_reducible apply go_mv_int); rfl; rfl))
             | ((with_reducible apply go_as))
             | (((with_reducible apply go_load_own); rfl; rfl; rfl; rfl))
             | (((with_reducible apply go_fieldAddr_own); rfl; rfl; rfl))
             | ((with_reducible (show evOp _ (.binOp _ _ _ _ _) _ _ _ _)) ; first | ((with_reducible apply go_add); rfl; rfl; rfl; omega) | ((with_reducible apply go_sub); rfl; rfl; rfl; omega) | ((with_reducible apply go_mul); rfl; rfl; rfl; omega))
             | (((with_reducible apply go_bx_agg); rfl; rfl; (exact Nat.le_of_ble_eq_true rfl); rfl; rfl)))
           | ((with_reducible (show evOps _ _ _ _ _ _)); first
             | (with_reducible apply go_nil))
           | ((with_reducible (show evG _ _ _ _ _)); first
             | (with_reducible apply go_seq)
             | (with_reducible apply go_region)
             | (with_reducible apply go_ret))
           | (with_reducible apply go_kseq)
           | ((with_reducible apply end_int); rfl)
  rfl
end Go.Pv.Soil

open Go Go.Proofs Go.Pv
set_option maxHeartbeats 1000000
set_option maxRecDepth 100000
set_option linter.unusedSimpArgs false
set_option linter.unusedVariables false
namespace Go.Pv.Soil

theorem sq_nonneg' (a : Int) : 0 ≤ a * a := by
  rw [← Int.natAbs_mul_self (a := a)]; exact Int.natCast_nonneg _

/-- The squared distance of two places, 0 if one is out of range. -/
def squareE (a b : Pt) : Int := if ptOK a = true ∧ ptOK b = true then sqE a b else 0
theorem squareE_bd (a b : Pt) : 0 ≤ squareE a b ∧ squareE a b ≤ 8000000000000 := by
  unfold squareE
  split
  · rename_i h
    have h1 := ptOK_bd h.1
    have h2 := ptOK_bd h.2
    have m1 := prod4 (a := b.x - a.x) (b := b.x - a.x) (by omega) (by omega)
    have m2 := prod4 (a := b.y - a.y) (b := b.y - a.y) (by omega) (by omega)
    have n1 : 0 ≤ (b.x - a.x) * (b.x - a.x) := sq_nonneg' _
    have n2 : 0 ≤ (b.y - a.y) * (b.y - a.y) := sq_nonneg' _
    unfold sqE
    omega
  · omega

theorem c148 (a b : Pt) : Contract Tryz.prog 102 [.agg (encPt a), .agg (encPt b)] (.ret (.int .i64 (squareE a b))) := by
  have h128 : Contract Tryz.prog 67 [.sl [encPt a, encPt b]] (.ret (.bool ([a, b].any fun p => !ptOK p))) := c128 [a, b] (by simp)
  by_cases h : ptOK a = true ∧ ptOK b = true
  · have e : ([a, b].any fun p => !ptOK p) = false := by simp [h.1, h.2]
    rw [e] at h128
    refine contract_of mix Tryz.func102 rfl rfl (by rw [Tryz.ntmps102]; exact Nat.le_of_ble_eq_true rfl) ?_; rw [Tryz.results102, Tryz.ntmps102]; simp only [argsE, Nat.reduceAdd]
    repeat' first
           | (with_reducible apply go_op)
           | (with_reducible apply go_next)
           | ((with_reducible (show evOp _ _ _ _ _ _)); first
             | (((with_reducible apply go_mv_int); rfl; rfl))
             | ((with_reducible apply go_as))
             | (((with_reducible apply go_ld_agg); rfl; rfl; rfl; rfl))
             | ((with_reducible (show evOp _ (.call _) _ _ _ _)) ; first | ((with_reducible apply go_fn_bool); rfl; (exact h128); rfl) | ((with_reducible apply go_fn_int); rfl; (exact c133 a b b h.1 h.2 h.2); rfl))
             | (((with_reducible apply go_bx_agg); rfl; rfl; (exact Nat.le_of_ble_eq_true rfl); rfl; rfl))
             | (((with_reducible apply go_bs2_agg); rfl; rfl; rfl; rfl; rfl; rfl; rfl; rfl)))
           | ((with_reducible (show evOps _ _ _ _ _ _)); first
             | (with_reducible apply go_nil))
           | ((with_reducible (show evG _ _ _ _ _)); first
             | (with_reducible apply go_seq)
             | (with_reducible apply go_region)
             | ((with_reducible apply go_cond_f); rfl; rfl)
             | (with_reducible apply go_ret)
             | (with_reducible apply go_skipc))
           | (with_reducible apply go_kseq)
           | ((with_reducible apply end_int); rfl)
    simp only [squareE, if_pos h, dotE, sqE]
  · have e : ([a, b].any fun p => !ptOK p) = true := by
      simp only [not_and, Bool.not_eq_true] at h
      cases ha : ptOK a
      · simp [ha]
      · simp [h ha]
    rw [e] at h128
    refine contract_of mix Tryz.func102 rfl rfl (by rw [Tryz.ntmps102]; exact Nat.le_of_ble_eq_true rfl) ?_; rw [Tryz.results102, Tryz.ntmps102]; simp only [argsE, Nat.reduceAdd]
    repeat' first
           | (with_reducible apply go_op)
           | (with_reducible apply go_next)
           | ((with_reducible (show evOp _ _ _ _ _ _)); first
             | (((with_reducible apply go_mv_int); rfl; rfl))
             | ((with_reducible apply go_as))
             | (((with_reducible apply go_ld_agg); rfl; rfl; rfl; rfl))
             | (((with_reducible apply go_fn_bool); rfl; (exact h128); rfl))
             | (((with_reducible apply go_bx_agg); rfl; rfl; (exact Nat.le_of_ble_eq_true rfl); rfl; rfl))
             | (((with_reducible apply go_bs2_agg); rfl; rfl; rfl; rfl; rfl; rfl; rfl; rfl)))
           | ((with_reducible (show evOps _ _ _ _ _ _)); first
             | (with_reducible apply go_nil))
           | ((with_reducible (show evG _ _ _ _ _)); first
             | (with_reducible apply go_seq)
             | (with_reducible apply go_region)
             | ((with_reducible apply go_cond_t); rfl; rfl)
             | (with_reducible apply go_ret))
           | (with_reducible apply go_kseq)
           | (with_reducible apply go_kseq_ret)
           | ((with_reducible apply end_int); rfl)
    simp only [squareE, if_neg h]
theorem c100 (a b : Pt) (ha : ptOK a = true) (hb : ptOK b = true) : Contract Tryz.prog 119 [.agg (encPt a), .agg (encPt b)] (.ret (.int .i64 (sqE a b))) := by
  refine contract_of mix Tryz.func119 rfl rfl (by rw [Tryz.ntmps119]; exact Nat.le_of_ble_eq_true rfl) ?_; rw [Tryz.results119, Tryz.ntmps119]; simp only [argsE, Nat.reduceAdd]
  repeat' first
           | (with_reducible apply go_op)
           | (with_reducible apply go_next)
           | ((with_reducible (show evOp _ _ _ _ _ _)); first
             | (((with_reducible apply go_mv_int); rfl; rfl))
             | ((with_reducible apply go_as))
             | (((with_reducible apply go_ld_agg); rfl; rfl; rfl; rfl))
             | (((with_reducible apply go_fn_int); rfl; (exact c149 a b b ha hb hb); rfl))
             | (((with_reducible apply go_bx_agg); rfl; rfl; (exact Nat.le_of_ble_eq_true rfl); rfl; rfl)))
           | ((with_reducible (show evOps _ _ _ _ _ _)); first
             | (with_reducible apply go_nil))
           | ((with_reducible (show evG _ _ _ _ _)); first
             | (with_reducible apply go_seq)
             | (with_reducible apply go_region)
             | (with_reducible apply go_ret))
           | (with_reducible apply go_kseq)
           | ((with_reducible apply end_int); rfl)
  simp only [dotE, sqE]

/-- The first of the least of n numbers: its place and itself. -/
def bestE (d : Nat → Int) : Nat → Nat × Int
  | 0 => (0, 0)
  | i + 1 => if i = 0 ∨ d i < (bestE d i).2 then (i, d i) else bestE d i

theorem bestE_lt {d : Nat → Int} : ∀ {n : Nat}, 0 < n → (bestE d n).1 < n
  | i + 1, _ => by
    unfold bestE
    split
    · simp
    · rename_i h
      have := bestE_lt (d := d) (n := i) (by omega)
      omega
theorem bestE_congr {d d' : Nat → Int} : ∀ {n : Nat}, (∀ i, i < n → d i = d' i) → bestE d n = bestE d' n
  | 0, _ => rfl
  | n + 1, h => by unfold bestE; rw [bestE_congr fun i hi => h i (by omega), h n (by omega)]

def borPt (b : Boring) : Pt := ⟨b.x, b.y⟩
def nearD (g : Ground) (p : Pt) (i : Nat) : Int := match g.borings[i]? with
  | some b => squareE (borPt b) p
  | none => 0
def nearE (g : Ground) (p : Pt) : Nat := (bestE (nearD g p) g.borings.length).1

theorem bestE_step {d : Nat → Int} {i : Nat} (h : i = 0 ∨ d i < (bestE d i).2) : bestE d (i + 1) = (i, d i) := by
  show (if _ then _ else _) = _
  rw [if_pos h]
theorem bestE_keep {d : Nat → Int} {i : Nat} (h : ¬ (i = 0 ∨ d i < (bestE d i).2)) : bestE d (i + 1) = bestE d i := by
  show (if _ then _ else _) = _
  rw [if_neg h]

theorem c98 (g : Ground) (hb : g.borings.length < 1000000000000) (p : Pt) : Contract Tryz.prog 70 [.agg (encGround g), .agg (encPt p)] (.ret (.int .i64 (nearE g p))) := by
  refine contract_of mix Tryz.func70 rfl rfl (by rw [Tryz.ntmps70]; exact Nat.le_of_ble_eq_true rfl) ?_; rw [Tryz.results70, Tryz.ntmps70]; simp only [argsE, Nat.reduceAdd]
  repeat' first
           | (with_reducible apply go_op)
           | (with_reducible apply go_next)
           | ((with_reducible (show evOp _ _ _ _ _ _)); first
             | (((with_reducible apply go_mv_int); rfl; rfl))
             | ((with_reducible apply go_as))
             | (((with_reducible apply go_load_own); rfl; rfl; rfl; rfl))
             | (((with_reducible apply go_fieldAddr_own); rfl; rfl; rfl))
             | (((with_reducible apply go_len); rfl; rfl))
             | (((with_reducible apply go_bx_agg); rfl; rfl; (exact Nat.le_of_ble_eq_true rfl); rfl; rfl)))
           | ((with_reducible (show evOps _ _ _ _ _ _)); first
             | (with_reducible apply go_nil))
           | ((with_reducible (show evG _ _ _ _ _)); first
             | (with_reducible apply go_seq)
             | (with_reducible apply go_region)
             | (with_reducible apply go_block))
           | (with_reducible apply go_kseq)
  refine go_count (g.borings.length) (fun i => ⟨[(14, .int .i64 i), (13, .int .i64 g.borings.length), (12, .sl (g.borings.map encBor)), (3, .op 32 0 0), (5, .int .i64 (bestE (nearD g p) i).1), (6, .int .i64 (bestE (nearD g p) i).2)], [(32, ⟨2, true, [encPt p]⟩)], 64, 37⟩) (fun i => True) (entails_eq (k := 0) (ns := []) (ks := [14, 13, 12, 3, 5, 6]) [(32, 32)] rfl (by simp) rfl) trivial ?_
  intro i hi hC
  repeat' first
           | (with_reducible apply go_op)
           | (with_reducible apply go_next)
           | ((with_reducible (show evOp _ _ _ _ _ _)); first
             | (((with_reducible apply go_mv_int); rfl; rfl))
             | ((with_reducible apply go_as))
             | ((with_reducible (show evOp _ (.load _ _) _ _ _ _)) ; first | ((with_reducible apply go_ld_agg); rfl; rfl; rfl; rfl) | ((with_reducible apply go_load); rfl; rfl; rfl) | ((with_reducible apply go_load_own); rfl; rfl; rfl; rfl))
             | (((with_reducible apply go_fieldAddr_own); rfl; rfl; rfl))
             | (((with_reducible apply go_index); rfl; rfl; (intro; rfl); rfl; omega; intro hlt))
             | (((with_reducible apply go_cmp); rfl; rfl; rfl; rfl))
             | (((with_reducible apply go_st_agg); rfl; rfl; rfl; rfl; rfl; rfl; rfl))
             | (((with_reducible apply go_bd2_int); rfl; rfl; rfl; rfl))
             | (((with_reducible apply go_alloc); rfl; rfl; rfl)))
           | ((with_reducible (show evOps _ _ _ _ _ _)); first
             | (with_reducible apply go_nil))
           | ((with_reducible (show evG _ _ _ _ _)); first
             | (with_reducible apply go_seq)
             | (with_reducible apply go_region)
             | (((with_reducible apply go_cond); rfl) <;> (intro h; simp only [h]; try simp only [decide_eq_true_eq, decide_eq_false_iff_not, Bool.not_eq_true', Bool.not_eq_false', Bool.not_true, Bool.not_false] at h; try exact absurd trivial h))
             | (with_reducible apply go_ret)
             | (with_reducible apply go_skipc)
             | (with_reducible apply go_block)
             | (with_reducible apply go_exit))
           | (with_reducible apply go_kseq)
           | (with_reducible apply go_kblock_exit)
           | (with_reducible apply go_kseq_exit)
           | ((with_reducible apply end_int); rfl)
  · have h2 : i < g.borings.length := by omega
    have hd : nearD g p i = squareE (borPt g.borings[i]) p := by simp only [nearD, List.getElem?_eq_getElem h2]
    refine go_fn_int (args' := [.agg (encPt (borPt g.borings[i])), .agg (encPt p)]) rfl (c148 _ _) rfl ?_
    rw [← hd]
    repeat' first
           | (with_reducible apply go_op)
           | (with_reducible apply go_next)
           | ((with_reducible (show evOp _ _ _ _ _ _)); first
             | ((with_reducible (show evOp _ (.move _) _ _ _ _)) ; first | ((with_reducible apply go_mv_int); rfl; rfl) | ((with_reducible apply go_mv_bool); rfl; rfl))
             | ((with_reducible apply go_as))
             | ((with_reducible (show evOp _ (.binOp _ _ _ _ _) _ _ _ _)) ; first | ((with_reducible apply go_cmp); rfl; rfl; rfl; rfl) | ((with_reducible apply go_add); rfl; rfl; rfl; omega))
             | (((with_reducible apply go_pick); rfl; rfl; rfl)))
           | ((with_reducible (show evOps _ _ _ _ _ _)); first
             | (with_reducible apply go_nil)
             | ((with_reducible apply go_run); rfl; rfl)
             | ((with_reducible apply go_pass); rfl; rfl; rfl)
             | (((with_reducible apply go_guard); rfl) <;> (intro h; simp only [h, Bool.not_true, Bool.not_false]; (try with_reducible (refine ⟨rfl, ?_⟩)); try simp only [decide_eq_true_eq, decide_eq_false_iff_not, Bool.not_eq_true', Bool.not_eq_false', Bool.not_true, Bool.not_false] at h; try exact absurd trivial h)))
           | ((with_reducible (show evG _ _ _ _ _)); first
             | (with_reducible apply go_seq)
             | (with_reducible apply go_region)
             | ((with_reducible apply go_cond_t); rfl; rfl)
             | (((with_reducible apply go_cond); rfl) <;> (intro h; simp only [h]; try simp only [decide_eq_true_eq, decide_eq_false_iff_not, Bool.not_eq_true', Bool.not_eq_false', Bool.not_true, Bool.not_false] at h; try exact absurd trivial h))
             | (with_reducible apply go_skipc))
           | (with_reducible apply go_kseq)
           | (with_reducible apply go_kblock)
    all_goals refine ⟨h2, trivial, ?_⟩
    all_goals first
      | (rw [bestE_step (by omega)]; exact entails_eq (k := 0) (ns := []) (ks := [14, 13, 12, 3, 5, 6]) [(32, 32)] rfl (by simp) rfl)
      | (rw [bestE_keep (by omega)]; exact entails_eq (k := 0) (ns := []) (ks := [14, 13, 12, 3, 5, 6]) [(32, 32)] rfl (by simp) rfl)
  · simp only [nearE]; congr 3; omega

def topAt (b : Boring) (level : Int) (i : Nat) : Bool := match b.layers[i]? with
  | some l => decide (level ≤ l.top)
  | none => false
/-- The last of n numbers that is so, or 0. -/
def lastE (p : Nat → Bool) : Nat → Nat
  | 0 => 0
  | n + 1 => if p n = true then n else lastE p n
def layerE (b : Boring) (level : Int) : Nat := lastE (topAt b level) b.layers.length

theorem lastE_at {p : Nat → Bool} {i : Nat} : ∀ {n : Nat}, i < n → p i = true → (∀ j, i < j → j < n → p j = false) → lastE p n = i
  | n + 1, hi, h, hb => by
    unfold lastE
    by_cases he : i = n
    · subst he; rw [if_pos h]
    · rw [if_neg (by rw [hb n (by omega) (by omega)]; decide)]
      exact lastE_at (by omega) h fun j h1 h2 => hb j h1 (by omega)
theorem lastE_zero {p : Nat → Bool} : ∀ {n : Nat}, (∀ j, 0 < j → j < n → p j = false) → lastE p n = 0
  | 0, _ => rfl
  | n + 1, hb => by
    unfold lastE
    by_cases he : n = 0
    · subst he; split <;> rfl
    · rw [if_neg (by rw [hb n (by omega) (by omega)]; decide)]
      exact lastE_zero fun j h1 h2 => hb j h1 (by omega)
theorem lastE_lt {p : Nat → Bool} : ∀ {n : Nat}, 0 < n → lastE p n < n
  | n + 1, _ => by
    unfold lastE
    split
    · omega
    · by_cases h : n = 0
      · subst h; exact Nat.zero_lt_succ _
      · have := lastE_lt (p := p) (n := n) (by omega); omega

theorem topAt_at {b : Boring} {level : Int} {j : Nat} (hj : j < b.layers.length) : topAt b level j = decide (level ≤ b.layers[j].top) := by
  simp only [topAt, List.getElem?_eq_getElem hj]

theorem c99 (b : Boring) (hl : b.layers.length < 1000000000000) (level : Int) : Contract Tryz.prog 71 [.agg (encBor b), .int .i64 level] (.ret (.int .i64 (layerE b level))) := by
  refine contract_of mix Tryz.func71 rfl rfl (by rw [Tryz.ntmps71]; exact Nat.le_of_ble_eq_true rfl) ?_; rw [Tryz.results71, Tryz.ntmps71]; simp only [argsE, Nat.reduceAdd]
  repeat' first
           | (with_reducible apply go_op)
           | (with_reducible apply go_next)
           | ((with_reducible (show evOp _ _ _ _ _ _)); first
             | (((with_reducible apply go_mv_int); rfl; rfl))
             | ((with_reducible apply go_as))
             | (((with_reducible apply go_load_own); rfl; rfl; rfl; rfl))
             | (((with_reducible apply go_fieldAddr_own); rfl; rfl; rfl))
             | (((with_reducible apply go_sub); rfl; rfl; rfl; omega))
             | (((with_reducible apply go_len); rfl; rfl))
             | (((with_reducible apply go_bx_agg); rfl; rfl; (exact Nat.le_of_ble_eq_true rfl); rfl; rfl)))
           | ((with_reducible (show evOps _ _ _ _ _ _)); first
             | (with_reducible apply go_nil))
           | ((with_reducible (show evG _ _ _ _ _)); first
             | (with_reducible apply go_seq)
             | (with_reducible apply go_region)
             | (with_reducible apply go_block))
           | (with_reducible apply go_kseq)
  refine go_count (b.layers.length) (fun i => ⟨[(5, .int .i64 ((b.layers.length : Int) - ((i + 1 : Nat) : Int))), (2, .op 0 0 0), (1, .int .i64 level)], [(0, ⟨4, true, [encBor b]⟩)], 32, 23⟩) (fun i => ∀ j, b.layers.length - (i + 1) < j → j < b.layers.length → topAt b level j = false) (entails_eq (k := 0) (ns := []) (ks := [5, 2, 1]) [(0, 0)] rfl (by simp) rfl) (fun j h1 h2 => by omega) ?_
  intro i hi hC
  repeat' first
           | (with_reducible apply go_op)
           | (with_reducible apply go_next)
           | ((with_reducible (show evOp _ _ _ _ _ _)); first
             | (((with_reducible apply go_mv_int); rfl; rfl))
             | ((with_reducible apply go_as))
             | ((with_reducible (show evOp _ (.load _ _) _ _ _ _)) ; first | ((with_reducible apply go_load); rfl; rfl; rfl) | ((with_reducible apply go_load_own); rfl; rfl; rfl; rfl))
             | ((with_reducible (show evOp _ (.fieldAddr _ _ _) _ _ _ _)) ; first | ((with_reducible apply go_fieldAddr); rfl; rfl) | ((with_reducible apply go_fieldAddr_own); rfl; rfl; rfl))
             | (((with_reducible apply go_index); rfl; rfl; (intro; rfl); rfl; omega; intro hlt))
             | ((with_reducible (show evOp _ (.binOp _ _ _ _ _) _ _ _ _)) ; first | ((with_reducible apply go_cmp); rfl; rfl; rfl; rfl) | ((with_reducible apply go_sub); rfl; rfl; rfl; omega)))
           | ((with_reducible (show evOps _ _ _ _ _ _)); first
             | (with_reducible apply go_nil))
           | ((with_reducible (show evG _ _ _ _ _)); first
             | (with_reducible apply go_seq)
             | (with_reducible apply go_region)
             | (((with_reducible apply go_cond); rfl) <;> (intro h; simp only [h]; try simp only [decide_eq_true_eq, decide_eq_false_iff_not, Bool.not_eq_true', Bool.not_eq_false', Bool.not_true, Bool.not_false] at h; try exact absurd trivial h))
             | (with_reducible apply go_ret)
             | (with_reducible apply go_skipc)
             | (with_reducible apply go_block)
             | (with_reducible apply go_exit))
           | (with_reducible apply go_kseq)
           | (with_reducible apply go_kseq_ret)
           | (with_reducible apply go_kblock)
           | (with_reducible apply go_kblock_ret)
           | (with_reducible apply go_kblock_exit)
           | (with_reducible apply go_kseq_exit)
           | ((with_reducible apply end_int); rfl)
  · have e : ((b.layers.length : Int) - ((i + 1 : Nat) : Int)).toNat = b.layers.length - (i + 1) := by omega
    simp only [e] at h hlt
    have hj : b.layers.length - (i + 1) < b.layers.length := by omega
    have : layerE b level = b.layers.length - (i + 1) := lastE_at hj (by rw [topAt_at hj]; simpa using h) fun j h1 h2 => hC j h1 h2
    omega
  · have e : ((b.layers.length : Int) - ((i + 1 : Nat) : Int)).toNat = b.layers.length - (i + 1) := by omega
    simp only [e] at h hlt
    have hj : b.layers.length - (i + 1) < b.layers.length := by omega
    refine ⟨by omega, fun j h1 h2 => ?_, ?_⟩
    · by_cases hjj : j = b.layers.length - (i + 1)
      · subst hjj; rw [topAt_at hj]; simpa using h
      · exact hC j (by omega) h2
    · rw [show (b.layers.length : Int) - ((i + 1 : Nat) : Int) - 1 = (b.layers.length : Int) - ((i + 1 + 1 : Nat) : Int) by omega]
      exact entails_eq (k := 0) (ns := []) (ks := [5, 2, 1]) [(0, 0)] rfl (by simp) rfl
  · have : layerE b level = 0 := lastE_zero fun j h1 h2 => hC j (by omega) h2
    omega

/-- The soil at a place and level, and the error. -/
def soilAt (g : Ground) (p : Pt) (level : Int) : ByteArray := match g.borings[nearE g p]? with
  | some b => (match b.layers[layerE b level]? with
    | some l => l.soil
    | none => .empty)
  | none => .empty
def atE (g : Ground) (p : Pt) (level : Int) : ByteArray × Int := if askedE g p [level] ≠ 0 then (.empty, askedE g p [level]) else (soilAt g p level, 0)
def encSE (x : ByteArray × Int) : D := .tup [.str x.1, .int .i64 x.2]

theorem groundE_ok {g : Ground} (h : groundE g = 0) : soilsE g.soils = 0 ∧ 0 < g.borings.length ∧ g.borings.length ≤ 20 ∧ eachE (·.name) (borE g.soils) g.borings = 0 := by
  unfold groundE at h
  split at h
  · omega
  · rename_i h1
    split at h
    · omega
    · split at h
      · omega
      · exact ⟨by simpa using h1, by omega, by omega, h⟩

theorem firstE_all {n : Nat} {f : Nat → Int} (h : firstE n f = 0) : ∀ j, j < n → f j = 0 := by
  induction n generalizing f with
  | zero => intro j hj; omega
  | succ n ih =>
    simp only [firstE] at h
    split at h
    · rename_i h0
      intro j hj
      cases j with
      | zero => exact h0
      | succ j => exact ih h j (by omega)
    · rename_i h0; exact (h0 h).elim

theorem eachE_all {α : Type} {nm : α → ByteArray} {er : α → Int} {l : List α} (h : eachE nm er l = 0) {i : Nat} (hi : i < l.length) : nameOK (nm l[i]) = true ∧ er l[i] = 0 := by
  have := firstE_all h i hi
  simp only [stepE, List.getElem?_eq_getElem hi] at this
  split at this
  · cases this
  · rename_i h1
    split at this
    · cases this
    · exact ⟨by simpa using h1, this⟩
end Go.Pv.Soil

open Go Go.Proofs Go.Pv
set_option maxHeartbeats 1000000
set_option maxRecDepth 100000
set_option linter.unusedSimpArgs false
set_option linter.unusedVariables false
namespace Go.Pv.Soil

/-- A boring that is in order. -/
structure OkBoring (l : List Soil) (b : Boring) : Prop where
  pt : ptOK (borPt b) = true
  len : 0 < b.layers.length ∧ b.layers.length ≤ 12
  lay : ∀ i (hi : i < b.layers.length), lvOK b.layers[i].top = true ∧ 0 ≤ ofName l b.layers[i].soil ∧ ∀ (h : 0 < i), b.layers[i].top < (b.layers[i - 1]'(by omega)).top

theorem borE_ok {l : List Soil} {b : Boring} (h : borE l b = 0) : OkBoring l b := by
  unfold borE at h
  split at h
  · omega
  · rename_i h1
    split at h
    · omega
    · split at h
      · omega
      · refine ⟨by simpa [borPt] using h1, by omega, fun i hi => ?_⟩
        have := firstE_all h i hi
        rw [layE_is hi] at this
        split at this
        · omega
        · rename_i h2
          split at this
          · omega
          · rename_i h3
            split at this
            · omega
            · rename_i h4
              refine ⟨by simpa using h2, by omega, fun h0 => ?_⟩
              rw [List.getElem?_eq_getElem (by omega : i - 1 < b.layers.length)] at h3
              simp only [Option.map_some, Option.getD_some, not_and] at h3
              have := h3 h0
              omega

structure OkG (g : Ground) : Prop where
  soils : soilsE g.soils = 0
  n : 0 < g.borings.length ∧ g.borings.length ≤ 20
  bor : ∀ i (hi : i < g.borings.length), OkBoring g.soils g.borings[i]

theorem okG {g : Ground} (h : groundE g = 0) : OkG g := by
  obtain ⟨h1, h2, h3, h4⟩ := groundE_ok h
  exact ⟨h1, ⟨h2, h3⟩, fun i hi => borE_ok (eachE_all h4 hi).2⟩

theorem near_lt {g : Ground} {p : Pt} (h : 0 < g.borings.length) : nearE g p < g.borings.length := bestE_lt h

theorem asked0 {g : Ground} {p : Pt} {l : List Int} (h : askedE g p l = 0) : groundE g = 0 ∧ ptOK p = true ∧ ∀ n ∈ l, lvOK n = true := by
  unfold askedE at h
  split at h
  · omega
  · rename_i h1
    split at h
    · omega
    · rename_i h2
      simp only [not_or, Bool.not_eq_false, Bool.not_eq_true, List.any_eq_false] at h2
      exact ⟨by simpa using h1, h2.1, fun n hn => by simpa using h2.2 n hn⟩

theorem soilAt_eq {g : Ground} {p : Pt} {level : Int} (h : OkG g) : ∃ (hn : nearE g p < g.borings.length) (hl : layerE g.borings[nearE g p] level < g.borings[nearE g p].layers.length), soilAt g p level = (g.borings[nearE g p].layers[layerE g.borings[nearE g p] level]).soil := by
  have hn := near_lt (p := p) h.n.1
  have hl : layerE g.borings[nearE g p] level < g.borings[nearE g p].layers.length := lastE_lt (h.bor _ hn).len.1
  refine ⟨hn, hl, ?_⟩
  simp only [soilAt, List.getElem?_eq_getElem hn, List.getElem?_eq_getElem hl]

theorem c43 (g : Ground) (hs : g.soils.length < 1000000000000) (hb : g.borings.length < 1000000000000) (p : Pt) (level : Int) : Contract Tryz.prog 33 [.agg (encGround g), .agg (encPt p), .int .i64 level] (.ret (encSE (atE g p level))) := by
  have h96 : Contract Tryz.prog 69 [.agg (encGround g), .agg (encPt p), .sl [[.int .i64 level]]] (.ret (.int .i64 (askedE g p [level]))) := c96 g hs hb p [level] (by simp)
  by_cases h0 : askedE g p [level] = 0
  · have hg := okG (asked0 h0).1
    obtain ⟨hn, hl, he⟩ := soilAt_eq (p := p) (level := level) hg
    have hll := (hg.bor _ hn).len
    have e : atE g p level = (soilAt g p level, 0) := by simp only [atE]; rw [if_neg (by simp [h0])]
    rw [e, he]
    rw [h0] at h96
    refine contract_of mix Tryz.func33 rfl rfl (by rw [Tryz.ntmps33]; exact Nat.le_of_ble_eq_true rfl) ?_; rw [Tryz.results33, Tryz.ntmps33]; simp only [argsE, Nat.reduceAdd]
    repeat' first
           | (with_reducible apply go_op)
           | (with_reducible apply go_next)
           | ((with_reducible (show evOp _ _ _ _ _ _)); first
             | ((with_reducible (show evOp _ (.move _) _ _ _ _)) ; first | ((with_reducible apply go_mv_int); rfl; rfl) | ((with_reducible apply go_mv_str); rfl; rfl))
             | ((with_reducible apply go_as))
             | ((with_reducible (show evOp _ (.load _ _) _ _ _ _)) ; first | ((with_reducible apply go_ld_ptr); rfl; rfl; rfl) | ((with_reducible apply go_ld_agg); rfl; rfl; rfl; rfl) | ((with_reducible apply go_load); rfl; rfl; rfl) | ((with_reducible apply go_load_own); rfl; rfl; rfl; rfl))
             | ((with_reducible (show evOp _ (.fieldAddr _ _ _) _ _ _ _)) ; first | ((with_reducible apply go_fieldAddr); rfl; rfl) | ((with_reducible apply go_fieldAddr_own); rfl; rfl; rfl))
             | (((with_reducible apply go_index_nat); rfl; rfl; (with_reducible rfl); (intro; rfl); rfl; omega; (intro hlt)))
             | (((with_reducible apply go_cmp); rfl; rfl; rfl; rfl))
             | ((with_reducible (show evOp _ (.call _) _ _ _ _)) ; first | ((with_reducible apply go_fn_int); rfl; (exact h96); rfl) | ((with_reducible apply go_fn_int); rfl; (exact c98 g hb p); rfl) | ((with_reducible apply go_fn_int); rfl; (exact c99 g.borings[nearE g p] (by omega) level); rfl))
             | (((with_reducible apply go_st_agg); rfl; rfl; rfl; rfl; rfl; rfl; rfl))
             | (((with_reducible apply go_bd1_agg); rfl; rfl; rfl; rfl))
             | (((with_reducible apply go_bx_agg); rfl; rfl; (exact Nat.le_of_ble_eq_true rfl); rfl; rfl))
             | (((with_reducible apply go_alloc); rfl; rfl; rfl))
             | (((with_reducible apply go_bs1_int); rfl; rfl; rfl)))
           | ((with_reducible (show evOps _ _ _ _ _ _)); first
             | (with_reducible apply go_nil)
             | ((with_reducible apply go_pre); rfl)
             | ((with_reducible apply go_pre_stop); rfl)
             | (with_reducible apply go_pre_nil)
             | ((with_reducible apply go_suf); rfl)
             | ((with_reducible apply go_suf_stop); rfl)
             | (with_reducible apply go_suf_nil))
           | ((with_reducible (show evG _ _ _ _ _)); first
             | (with_reducible apply go_seq)
             | (with_reducible apply go_region)
             | ((with_reducible apply go_cond_f); rfl; rfl)
             | ((with_reducible apply go_order); kernel_rfl; rfl)
             | (with_reducible apply go_ret)
             | (with_reducible apply go_skipc))
           | (with_reducible apply go_kseq)
           | (with_reducible apply go_ksuf)
           | ((with_reducible apply end_t2); rfl; rfl; rfl; rfl)
    rfl
  · have e : atE g p level = (.empty, askedE g p [level]) := by simp only [atE]; rw [if_pos h0]
    rw [e]
    refine contract_of mix Tryz.func33 rfl rfl (by rw [Tryz.ntmps33]; exact Nat.le_of_ble_eq_true rfl) ?_; rw [Tryz.results33, Tryz.ntmps33]; simp only [argsE, Nat.reduceAdd]
    repeat' first
           | (with_reducible apply go_op)
           | (with_reducible apply go_next)
           | ((with_reducible (show evOp _ _ _ _ _ _)); first
             | ((with_reducible (show evOp _ (.move _) _ _ _ _)) ; first | ((with_reducible apply go_mv_int); rfl; rfl) | ((with_reducible apply go_mv_str); rfl; rfl))
             | ((with_reducible apply go_as))
             | ((with_reducible (show evOp _ (.load _ _) _ _ _ _)) ; first | ((with_reducible apply go_ld_agg); rfl; rfl; rfl; rfl) | ((with_reducible apply go_load_own); rfl; rfl; rfl; rfl))
             | (((with_reducible apply go_fieldAddr_own); rfl; rfl; rfl))
             | (((with_reducible apply go_cmp); rfl; rfl; rfl; rfl))
             | (((with_reducible apply go_fn_int); rfl; (exact h96); rfl))
             | (((with_reducible apply go_bd1_agg); rfl; rfl; rfl; rfl))
             | (((with_reducible apply go_bx_agg); rfl; rfl; (exact Nat.le_of_ble_eq_true rfl); rfl; rfl))
             | (((with_reducible apply go_bs1_int); rfl; rfl; rfl)))
           | ((with_reducible (show evOps _ _ _ _ _ _)); first
             | (with_reducible apply go_nil)
             | ((with_reducible apply go_pre); rfl))
           | ((with_reducible (show evG _ _ _ _ _)); first
             | (with_reducible apply go_seq)
             | (with_reducible apply go_region)
             | (((with_reducible apply go_cond); rfl) <;> (intro h; simp only [h]; try simp only [decide_eq_true_eq, decide_eq_false_iff_not, Bool.not_eq_true', Bool.not_eq_false', Bool.not_true, Bool.not_false] at h; try exact absurd trivial h))
             | ((with_reducible apply go_order); kernel_rfl; rfl)
             | (with_reducible apply go_ret)
             | (with_reducible apply go_skipc))
           | (with_reducible apply go_kseq)
           | (with_reducible apply go_kseq_ret)
           | ((with_reducible apply end_t2); rfl; rfl; rfl; rfl)
    all_goals first | (exact absurd ‹_› h0) | rfl

def nearRE (g : Ground) (p : Pt) : Int × Int := if askedE g p [] ≠ 0 then (0, askedE g p []) else (nearE g p, 0)
def enc2 (x : Int × Int) : D := .tup [.int .i64 x.1, .int .i64 x.2]
end Go.Pv.Soil

open Go Go.Proofs Go.Pv
set_option maxHeartbeats 1000000
set_option maxRecDepth 100000
set_option linter.unusedSimpArgs false
set_option linter.unusedVariables false
namespace Go.Pv.Soil

def laySoil (b : Boring) (k : Nat) : ByteArray := match b.layers[k]? with
  | some l => l.soil
  | none => .empty

end Go.Pv.Soil

open Go Go.Proofs Go.Pv
set_option maxHeartbeats 1000000
set_option maxRecDepth 100000
set_option linter.unusedSimpArgs false
set_option linter.unusedVariables false
namespace Go.Pv.Soil

structure Part where
  soil : ByteArray
  top : Int
  bottom : Int
def encPart (p : Part) : List D := [.str p.soil, .int .i64 p.top, .int .i64 p.bottom]
theorem scalPart : ScalF encPart 3 := fun _ => ⟨rfl, rfl⟩

def topOf (b : Boring) (i : Nat) (d : Int) : Int := match b.layers[i]? with
  | some l => l.top
  | none => d
def partAt (b : Boring) (f t : Int) (i : Nat) : Part := ⟨laySoil b i, if 0 < i then min f (topOf b i f) else f, if i + 1 < b.layers.length then max t (topOf b (i + 1) t) else t⟩
/-- The parts of a column by the first n layers. -/
def colE (b : Boring) (f t : Int) : Nat → List Part
  | 0 => []
  | n + 1 => if (partAt b f t n).bottom < (partAt b f t n).top then colE b f t n ++ [partAt b f t n] else colE b f t n
def columnE (g : Ground) (p : Pt) (f t : Int) : List Part := match g.borings[nearE g p]? with
  | some b => colE b f t b.layers.length
  | none => []
theorem colE_len (b : Boring) (f t : Int) : ∀ n, (colE b f t n).length ≤ n
  | 0 => Nat.le_refl _
  | n + 1 => by
    have := colE_len b f t n
    simp only [colE]
    split <;> simp <;> omega

theorem part_top {b : Boring} {f t : Int} {i : Nat} (hi : i < b.layers.length) : (partAt b f t i).top = if 0 < i then min f b.layers[i].top else f := by
  simp only [partAt, topOf, List.getElem?_eq_getElem hi]
theorem part_bot {b : Boring} {f t : Int} {i : Nat} : (partAt b f t i).bottom = if h : i + 1 < b.layers.length then max t b.layers[i + 1].top else t := by
  simp only [partAt, topOf]
  split
  · rename_i h; rw [List.getElem?_eq_getElem h]
  · rfl
theorem part_soil {b : Boring} {f t : Int} {i : Nat} (hi : i < b.layers.length) : (partAt b f t i).soil = b.layers[i].soil := by
  simp only [partAt, laySoil, List.getElem?_eq_getElem hi]
theorem colE_yes {b : Boring} {f t X Y : Int} {i : Nat} (h : Y < X) (hi : i < b.layers.length) (hx : (partAt b f t i).top = X) (hy : (partAt b f t i).bottom = Y) : colE b f t i ++ [⟨b.layers[i].soil, X, Y⟩] = colE b f t (i + 1) := by
  subst hx hy
  rw [← part_soil (f := f) (t := t) hi]
  show _ = if _ then _ else _
  rw [if_pos h]
theorem colE_no {b : Boring} {f t X Y : Int} {i : Nat} (h : ¬ Y < X) (hx : (partAt b f t i).top = X) (hy : (partAt b f t i).bottom = Y) : colE b f t i = colE b f t (i + 1) := by
  subst hx hy
  show _ = if _ then _ else _
  rw [if_neg h]

/-- A column and the error. -/
def columnRE (g : Ground) (p : Pt) (f t : Int) : List Part × Int := if askedE g p [f, t] ≠ 0 then ([], askedE g p [f, t]) else if f < t then ([], 9) else (columnE g p f t, 0)
def encCol (x : List Part × Int) : D := .tup [.fr 3 (x.1.map encPart), .int .i64 x.2]

end Go.Pv.Soil

open Go Go.Proofs Go.Pv
set_option maxHeartbeats 1000000
set_option maxRecDepth 100000
set_option linter.unusedSimpArgs false
set_option linter.unusedVariables false
namespace Go.Pv.Soil

end Go.Pv.Soil

open Go Go.Proofs Go.Pv
set_option maxHeartbeats 1000000
set_option maxRecDepth 100000
set_option linter.unusedSimpArgs false
set_option linter.unusedVariables false
namespace Go.Pv.Soil

end Go.Pv.Soil

open Go Go.Proofs Go.Pv
set_option maxHeartbeats 1000000
set_option maxRecDepth 100000
set_option linter.unusedSimpArgs false
set_option linter.unusedVariables false
namespace Go.Pv.Soil

/-- The inputs that the laws look at. -/
def slightB (b : Boring) : Bool := decide (b.name.size ≤ 50) && decide (b.layers.length ≤ 14) && b.layers.all fun l => decide (l.soil.size ≤ 50)
def slightE (g : Ground) : Bool := decide (g.soils.length ≤ 10) && decide (g.borings.length ≤ 22) && g.soils.all (fun s => decide (s.name.size ≤ 50)) && g.borings.all slightB

theorem slight_soil {g : Ground} {i : Nat} (hi : i < g.soils.length) (h : ¬ g.soils[i].name.size ≤ 50) : false = slightE g := by
  have : g.soils.all (fun s => decide (s.name.size ≤ 50)) = false := by
    rw [List.all_eq_false]
    exact ⟨_, List.getElem_mem hi, by simpa using h⟩
  simp only [slightE, this, Bool.and_false, Bool.false_and]
theorem slight_bor {g : Ground} {i : Nat} (hi : i < g.borings.length) (h : slightB g.borings[i] = false) : false = slightE g := by
  have : g.borings.all slightB = false := by
    rw [List.all_eq_false]
    exact ⟨_, List.getElem_mem hi, by simp [h]⟩
  simp only [slightE, this, Bool.and_false]
theorem slightB_lay {b : Boring} {i : Nat} (hi : i < b.layers.length) (h : ¬ b.layers[i].soil.size ≤ 50) : slightB b = false := by
  have : (b.layers.all fun l => decide (l.soil.size ≤ 50)) = false := by
    rw [List.all_eq_false]
    exact ⟨_, List.getElem_mem hi, by simpa using h⟩
  simp only [slightB, this, Bool.and_false]
theorem slightB_no {b : Boring} (h : ¬ b.name.size ≤ 50 ∨ ¬ b.layers.length ≤ 14) : slightB b = false := by
  rcases h with h | h
  · simp only [slightB, decide_eq_false h, Bool.false_and]
  · simp only [slightB, decide_eq_false h, Bool.and_false, Bool.false_and]
theorem slightB_yes {b : Boring} (h1 : b.name.size ≤ 50) (h2 : b.layers.length ≤ 14) (h : ∀ i (hi : i < b.layers.length), b.layers[i].soil.size ≤ 50) : slightB b = true := by
  simp only [slightB, Bool.and_eq_true, decide_eq_true_eq, List.all_eq_true]
  refine ⟨⟨h1, h2⟩, fun l hl => ?_⟩
  obtain ⟨i, hi, rfl⟩ := List.mem_iff_getElem.1 hl
  exact h i hi
theorem slight_yes {g : Ground} (h1 : g.soils.length ≤ 10) (h2 : g.borings.length ≤ 22) (h3 : ∀ i (hi : i < g.soils.length), g.soils[i].name.size ≤ 50) (h4 : ∀ i (hi : i < g.borings.length), slightB g.borings[i] = true) : true = slightE g := by
  symm
  simp only [slightE, Bool.and_eq_true, decide_eq_true_eq, List.all_eq_true]
  refine ⟨⟨⟨h1, h2⟩, fun l hl => ?_⟩, fun l hl => ?_⟩
  · obtain ⟨i, hi, rfl⟩ := List.mem_iff_getElem.1 hl
    exact h3 i hi
  · obtain ⟨i, hi, rfl⟩ := List.mem_iff_getElem.1 hl
    exact h4 i hi

end Go.Pv.Soil

open Go Go.Proofs Go.Pv
set_option maxHeartbeats 1000000
set_option maxRecDepth 100000
set_option linter.unusedSimpArgs false
set_option linter.unusedVariables false
namespace Go.Pv.Soil

def okB (o : Option Outc) : Bool := match o with | some (.ret (.bool b)) => b | _ => false
theorem okB_ok {f : FuncId} {ds : List D} {n k : Nat} (h : okB (runF Tryz.prog n k f ds) = true) : Contract Tryz.prog f ds (.ret (.bool true)) := by
  refine runF_ok mix k f ds _ (fuel := n) ?_
  unfold okB at h
  split at h
  · rename_i b hb; rw [hb, h]
  · cases h

/-- The document's examples hold: worked out. -/
theorem c18 : Contract Tryz.prog 6 [] (.ret (.bool true)) := okB_ok (n := 1000) (k := 20) (by kernel_rfl)

theorem slight_len {g : Ground} (h : slightE g = true) : g.soils.length ≤ 10 ∧ g.borings.length ≤ 22 := by
  simp only [slightE, Bool.and_eq_true, decide_eq_true_eq] at h
  exact ⟨h.1.1.1, h.1.1.2⟩

end Go.Pv.Soil

open Go Go.Proofs Go.Pv
set_option maxHeartbeats 2000000
set_option maxRecDepth 100000
set_option linter.unusedSimpArgs false
set_option linter.unusedVariables false
namespace Go.Pv.Soil

/-- The error of a ground and a place. -/
def gpE (g : Ground) (p : Pt) : Int := if groundE g ≠ 0 then groundE g else if ptOK p = false then 2 else 0

theorem asked_gp {g : Ground} {p : Pt} {l : List Int} (h : gpE g p ≠ 0) : askedE g p l = gpE g p := by
  unfold gpE at h ⊢
  unfold askedE
  split
  · rfl
  · rename_i h1
    rw [if_neg h1] at h
    split at h
    · rename_i h2; rw [if_pos (.inl h2), if_pos h2]
    · omega
theorem asked_ok {g : Ground} {p : Pt} {l : List Int} (h : gpE g p = 0) : askedE g p l = if (l.any fun n => !lvOK n) = true then 2 else 0 := by
  unfold gpE at h
  unfold askedE
  split at h
  · omega
  · rename_i h1
    split at h
    · omega
    · rename_i h2
      rw [if_neg h1]
      simp [h2]
theorem gp_ok {g : Ground} {p : Pt} (h : gpE g p = 0) : groundE g = 0 ∧ ptOK p = true := by
  unfold gpE at h
  split at h
  · omega
  · rename_i h1
    split at h
    · omega
    · rename_i h2
      exact ⟨by simpa using h1, by simpa using h2⟩

def encAt2 (x : Int × Int) : List D := [.int .i64 x.1, .int .i64 x.2]

end Go.Pv.Soil

open Go Go.Proofs Go.Pv
set_option maxHeartbeats 2000000
set_option maxRecDepth 100000
set_option linter.unusedSimpArgs false
set_option linter.unusedVariables false
namespace Go.Pv.Soil

theorem tops {s : List Soil} {b : Boring} (hb : OkBoring s b) {i : Nat} : ∀ {j : Nat} (h : i < j) (hj : j < b.layers.length), b.layers[j].top < (b.layers[i]'(by omega)).top
  | j + 1, h, hj => by
    have h1 := (hb.lay (j + 1) hj).2.2 (by omega)
    by_cases he : i = j
    · subst he; exact h1
    · exact Int.lt_trans h1 (tops hb (j := j) (by omega) (by omega))

/-- The level behind n parts. -/
def lev (f : Int) (l : List Part) : Nat → Int
  | 0 => f
  | i + 1 => match l[i]? with
    | some x => x.bottom
    | none => 0
theorem lev_app {f : Int} {l : List Part} {x : Part} : ∀ {i : Nat}, i ≤ l.length → lev f (l ++ [x]) i = lev f l i
  | 0, _ => rfl
  | i + 1, h => by
    show (match (l ++ [x])[i]? with | some x => x.bottom | none => 0) = _
    rw [List.getElem?_append_left (by omega)]
    rfl
theorem lev_next {f : Int} {l : List Part} {i : Nat} (h : i < l.length) : lev f l (i + 1) = l[i].bottom := by
  show (match l[i]? with | some x => x.bottom | none => 0) = _
  rw [List.getElem?_eq_getElem h]

structure Good (b : Boring) (f t : Int) (l : List Part) (e : Int) : Prop where
  chain : ∀ i (h : i < l.length), l[i].top = lev f l i ∧ l[i].bottom < l[i].top
  last : lev f l l.length = e
  all : ∀ i (h : i < l.length), t ≤ l[i].bottom ∧ l[i].top ≤ f ∧ ∃ k, k < b.layers.length ∧ l[i] = partAt b f t k

def levE (b : Boring) (f t : Int) (n : Nat) : Int := if n = 0 then f else if h : n < b.layers.length then max t (min f b.layers[n].top) else t

theorem part_bds {b : Boring} {f t : Int} {n : Nat} : t ≤ (partAt b f t n).bottom ∧ (partAt b f t n).top ≤ f := by
  simp only [partAt]
  constructor <;> split <;> omega

theorem good_col {s : List Soil} {b : Boring} (hb : OkBoring s b) {f t : Int} (htf : t ≤ f) : ∀ n, n ≤ b.layers.length → Good b f t (colE b f t n) (levE b f t n)
  | 0, _ => ⟨fun i h => absurd h (Nat.not_lt_zero _), rfl, fun i h => absurd h (Nat.not_lt_zero _)⟩
  | n + 1, hn => by
    have ih := good_col hb htf n (by omega)
    have hlt : n < b.layers.length := hn
    have e1 := part_top (f := f) (t := t) hlt
    have e2 := part_bot (b := b) (f := f) (t := t) (i := n)
    have hbd := part_bds (b := b) (f := f) (t := t) (n := n)
    have ht : ∀ h : n + 1 < b.layers.length, b.layers[n + 1].top < b.layers[n].top := fun h => tops hb (by omega) h
    have hE : levE b f t (n + 1) = if h : n + 1 < b.layers.length then max t (min f b.layers[n + 1].top) else t := by
      unfold levE; rw [if_neg (by omega)]
    have hE0 : levE b f t n = if n = 0 then f else max t (min f b.layers[n].top) := by
      unfold levE; rw [dif_pos hlt]
    simp only [colE]
    split
    · rename_i h
      have htop : (partAt b f t n).top = levE b f t n := by
        rw [hE0, e1]
        by_cases h0 : n = 0
        · rw [if_pos h0, if_neg (by omega)]
        · rw [if_neg h0, if_pos (by omega)]
          rw [e1, if_pos (by omega)] at h
          omega
      have hbot : (partAt b f t n).bottom = levE b f t (n + 1) := by
        rw [hE]
        by_cases h1 : n + 1 < b.layers.length
        · rw [e2, dif_pos h1, dif_pos h1]
          rw [e2, dif_pos h1] at h
          omega
        · rw [e2, dif_neg h1, dif_neg h1]
      refine ⟨fun i hi => ?_, ?_, fun i hi => ?_⟩
      · rw [List.length_append, List.length_singleton] at hi
        rw [lev_app (by omega)]
        by_cases he : i = (colE b f t n).length
        · subst he
          simp only [List.getElem_concat_length]
          exact ⟨by rw [htop, ih.last], h⟩
        · rw [List.getElem_append_left (by omega)]
          exact ih.chain i (by omega)
      · rw [List.length_append, List.length_singleton, lev_next (by simp)]
        simp only [List.getElem_concat_length]
        exact hbot
      · rw [List.length_append, List.length_singleton] at hi
        by_cases he : i = (colE b f t n).length
        · subst he
          simp only [List.getElem_concat_length]
          exact ⟨hbd.1, hbd.2, n, hlt, rfl⟩
        · rw [List.getElem_append_left (by omega)]
          exact ih.all i (by omega)
    · rename_i h
      have hsame : levE b f t n = levE b f t (n + 1) := by
        rw [hE, hE0]
        by_cases h1 : n + 1 < b.layers.length
        · have := ht h1
          rw [dif_pos h1]
          rw [e2, dif_pos h1, e1] at h
          by_cases h0 : n = 0
          · rw [if_neg (by omega)] at h
            rw [if_pos h0]; omega
          · rw [if_pos (by omega)] at h
            rw [if_neg h0]; omega
        · rw [dif_neg h1]
          rw [e2, dif_neg h1, e1] at h
          by_cases h0 : n = 0
          · rw [if_neg (by omega)] at h
            rw [if_pos h0]; omega
          · rw [if_pos (by omega)] at h
            rw [if_neg h0]; omega
      rw [← hsame]
      exact ih

theorem part_layer {s : List Soil} {b : Boring} (hb : OkBoring s b) {f t lv : Int} {k : Nat} (hk : k < b.layers.length) (h1 : (partAt b f t k).bottom < lv) (h2 : lv ≤ (partAt b f t k).top) : layerE b lv = k := by
  rw [part_bot] at h1
  rw [part_top hk] at h2
  have hall : ∀ j, k < j → j < b.layers.length → topAt b lv j = false := by
    intro j hj hl
    rw [topAt_at hl]
    have h3 : k + 1 < b.layers.length := by omega
    rw [dif_pos h3] at h1
    by_cases he : j = k + 1
    · subst he; simp; omega
    · have := tops hb (i := k + 1) (j := j) (by omega) hl
      simp; omega
  by_cases h0 : k = 0
  · subst h0
    exact lastE_zero fun j h h' => hall j h h'
  · rw [if_pos (by omega)] at h2
    exact lastE_at hk (by rw [topAt_at hk]; simp; omega) hall

theorem levE_end {s : List Soil} {b : Boring} (hb : OkBoring s b) {f t : Int} : levE b f t b.layers.length = t := by
  have := hb.len
  unfold levE
  rw [if_neg (by omega), dif_neg (by omega)]

theorem col_good {g : Ground} (hg : OkG g) {p : Pt} {f t : Int} (htf : t ≤ f) :
    (∀ i (h : i < (columnE g p f t).length), (columnE g p f t)[i].top = lev f (columnE g p f t) i ∧ (columnE g p f t)[i].bottom < (columnE g p f t)[i].top ∧ t ≤ (columnE g p f t)[i].bottom ∧ (columnE g p f t)[i].top ≤ f ∧ ∀ lv, (columnE g p f t)[i].bottom < lv → lv ≤ (columnE g p f t)[i].top → soilAt g p lv = (columnE g p f t)[i].soil) ∧ lev f (columnE g p f t) (columnE g p f t).length = t := by
  have hn := near_lt (p := p) hg.n.1
  have hb := hg.bor _ hn
  have e : columnE g p f t = colE g.borings[nearE g p] f t g.borings[nearE g p].layers.length := by
    simp only [columnE, List.getElem?_eq_getElem hn]
  rw [e]
  have hG := good_col hb htf g.borings[nearE g p].layers.length (Nat.le_refl _)
  refine ⟨fun i h => ?_, by rw [hG.last, levE_end hb]⟩
  obtain ⟨h1, h2⟩ := hG.chain i h
  obtain ⟨h3, h4, k, hk, hx⟩ := hG.all i h
  refine ⟨h1, h2, h3, h4, fun lv h5 h6 => ?_⟩
  rw [hx] at h5 h6 ⊢
  have hl := part_layer hb hk h5 h6
  simp only [soilAt, List.getElem?_eq_getElem hn, hl, List.getElem?_eq_getElem hk, part_soil hk]

theorem tmod_rng {n m : Int} (hm : 0 < m) : n % m = n.tmod m % m ∧ -m < n.tmod m ∧ n.tmod m < m := by
  refine ⟨?_, ?_, ?_⟩
  · conv => lhs; rw [← Int.tmod_add_mul_tdiv n m]
    rw [Int.add_mul_emod_self_left]
  · have := Int.lt_tmod_of_pos n hm; omega
  · exact Int.tmod_lt_of_pos n hm

theorem c44 (n m : Int) (hm : 0 < m ∧ m ≤ 4611686018427387904) : Contract Tryz.prog 143 [.int .i64 n, .int .i64 m] (.ret (.int .i64 (n % m))) := by
  obtain ⟨h1, h2, h3⟩ := tmod_rng (n := n) hm.1
  refine contract_of mix Tryz.func143 rfl rfl (by rw [Tryz.ntmps143]; exact Nat.le_of_ble_eq_true rfl) ?_; rw [Tryz.results143, Tryz.ntmps143]; simp only [argsE, Nat.reduceAdd]
  repeat' first
           | (with_reducible apply go_op)
           | (with_reducible apply go_next)
           | ((with_reducible (show evOp _ _ _ _ _ _)); first
             | (((with_reducible apply go_mv_int); rfl; rfl))
             | ((with_reducible apply go_as))
             | ((with_reducible (show evOp _ (.binOp _ _ _ _ _) _ _ _ _)) ; first | ((with_reducible apply go_cmp); rfl; rfl; rfl; rfl) | ((with_reducible apply go_add); rfl; rfl; rfl; omega) | ((with_reducible apply go_rem); rfl; rfl; rfl; omega)))
           | ((with_reducible (show evOps _ _ _ _ _ _)); first
             | (with_reducible apply go_nil))
           | ((with_reducible (show evG _ _ _ _ _)); first
             | (with_reducible apply go_seq)
             | (with_reducible apply go_region)
             | (((with_reducible apply go_cond); rfl) <;> (intro h; simp only [h]; try simp only [decide_eq_true_eq, decide_eq_false_iff_not, Bool.not_eq_true', Bool.not_eq_false', Bool.not_true, Bool.not_false] at h; try exact absurd trivial h))
             | (with_reducible apply go_ret)
             | (with_reducible apply go_skipc))
           | (with_reducible apply go_kseq)
           | ((with_reducible apply end_int); rfl)
  · first | rw [wrap64 (by omega)] | skip
    rw [h1, ← Int.add_emod_right (n.tmod m) m, Int.emod_eq_of_lt (by omega) (by omega)]
  · rw [h1, Int.emod_eq_of_lt (by omega) (by omega)]

def encAt3 (x : Int × Int × Int) : List D := [.int .i64 x.1, .int .i64 x.2.1, .int .i64 x.2.2]
theorem lv_between {a b c : Int} (ha : lvOK a = true) (hb : lvOK b = true) (h : b ≤ c ∧ c ≤ a) : lvOK c = true := by
  simp only [lvOK, decide_eq_true_eq, Bool.and_eq_true] at ha hb ⊢
  omega
theorem lv_bds {a : Int} (ha : lvOK a = true) : -1000000 ≤ a ∧ a ≤ 1000000 := by
  simp only [lvOK, decide_eq_true_eq, Bool.and_eq_true] at ha
  omega

end Go.Pv.Soil

open Go Go.Proofs Go.Pv
set_option maxHeartbeats 2000000
set_option maxRecDepth 100000
set_option linter.unusedSimpArgs false
set_option linter.unusedVariables false
namespace Go.Pv.Soil

theorem c165v (l : List Int) (hl : l.length < 1000000000000) (g : FuncId) (ys : List D) (hst : Stab ys) (hpu : pureL ys = true) (p : Int → Bool) (hf : ∀ x ∈ l, Contract Tryz.prog g (.int .i64 x :: ys) (.ret (.bool (p x)))) :
    Contract Tryz.prog 90 [.sl (l.map encInt), .clo (.func g) [] ys] (.ret (.int .i64 (idxOf p l))) := by
  refine contract_of mix Tryz.func90 rfl rfl (by rw [Tryz.ntmps90]; exact Nat.le_of_ble_eq_true rfl) ?_; rw [Tryz.results90, Tryz.ntmps90]; simp only [argsE, Nat.reduceAdd]
  repeat' first
           | (with_reducible apply go_op)
           | (with_reducible apply go_next)
           | ((with_reducible (show evOp _ _ _ _ _ _)); first
             | ((with_reducible (show evOp _ (.move _) _ _ _ _)) ; first | ((with_reducible apply go_mv_int); rfl; rfl) | ((with_reducible apply go_mv_sl); rfl; rfl))
             | ((with_reducible apply go_as))
             | (((with_reducible apply go_len); rfl; rfl)))
           | ((with_reducible (show evOps _ _ _ _ _ _)); first
             | (with_reducible apply go_nil))
           | ((with_reducible (show evG _ _ _ _ _)); first
             | (with_reducible apply go_seq)
             | (with_reducible apply go_region)
             | (with_reducible apply go_block))
           | (with_reducible apply go_kseq)
  have e8 : ∀ i : Nat, (⟨[(8, .int .i64 i), (7, .int .i64 l.length), (0, .sl (l.map encInt)), (1, .clo (.func g) [] (renL [] ys))], [], 0, 19⟩ : St) = ⟨[(8, .int .i64 i), (7, .int .i64 l.length), (0, .sl (l.map encInt)), (1, .clo (.func g) [] ys)], [], 0, 19⟩ := fun i => by rw [renL_pure hpu]
  refine go_count l.length (fun i => ⟨[(8, .int .i64 i), (7, .int .i64 l.length), (0, .sl (l.map encInt)), (1, .clo (.func g) [] ys)], [], 0, 19⟩) (fun i => ∀ j (hj : j < i) (hj' : j < l.length), p l[j] = false) (entails_eq (k := 0) (ns := []) (ks := [8, 7, 0, 1]) [] rfl (by simp) (e8 _)) (by omega) ?_
  intro i hi hC
  repeat' first
           | (with_reducible apply go_op)
           | (with_reducible apply go_next)
           | ((with_reducible (show evOp _ _ _ _ _ _)); first
             | ((with_reducible (show evOp _ (.move _) _ _ _ _)) ; first | ((with_reducible apply go_mv_int); rfl; rfl) | ((with_reducible apply go_mv_sl); rfl; rfl) | ((with_reducible apply go_mv_clo); rfl; rfl))
             | ((with_reducible apply go_as))
             | (((with_reducible apply go_load); rfl; rfl; rfl))
             | (((with_reducible apply go_index_nat); rfl; rfl; (with_reducible rfl); (intro; rfl); rfl; omega; (intro hlt)))
             | (((with_reducible apply go_cmp); rfl; rfl; rfl; rfl)))
           | ((with_reducible (show evOps _ _ _ _ _ _)); first
             | (with_reducible apply go_nil))
           | ((with_reducible (show evG _ _ _ _ _)); first
             | (with_reducible apply go_seq)
             | (with_reducible apply go_region)
             | (((with_reducible apply go_cond); rfl) <;> (intro h; simp only [h]; try simp only [decide_eq_true_eq, decide_eq_false_iff_not, Bool.not_eq_true', Bool.not_eq_false', Bool.not_true, Bool.not_false] at h; try exact absurd trivial h))
             | (with_reducible apply go_ret)
             | (with_reducible apply go_skipc)
             | (with_reducible apply go_block)
             | (with_reducible apply go_exit))
           | (with_reducible apply go_kseq)
           | (with_reducible apply go_kblock_exit)
           | (with_reducible apply go_kseq_exit)
           | ((with_reducible apply end_int); rfl)
  · refine go_clo_bool rfl rfl hst (hf l[i] (List.getElem_mem _)) rfl ?_
    repeat' first
           | (with_reducible apply go_op)
           | (with_reducible apply go_next)
           | ((with_reducible (show evOp _ _ _ _ _ _)); first
             | (((with_reducible apply go_mv_int); rfl; rfl))
             | ((with_reducible apply go_as))
             | (((with_reducible apply go_add); rfl; rfl; rfl; omega)))
           | ((with_reducible (show evOps _ _ _ _ _ _)); first
             | (with_reducible apply go_nil))
           | ((with_reducible (show evG _ _ _ _ _)); first
             | (with_reducible apply go_seq)
             | (with_reducible apply go_region)
             | (((with_reducible apply go_cond); rfl) <;> (intro h; simp only [h]; try simp only [decide_eq_true_eq, decide_eq_false_iff_not, Bool.not_eq_true', Bool.not_eq_false', Bool.not_true, Bool.not_false] at h; try exact absurd trivial h))
             | (with_reducible apply go_ret)
             | (with_reducible apply go_skipc))
           | (with_reducible apply go_kseq)
           | (with_reducible apply go_kseq_ret)
           | (with_reducible apply go_kblock)
           | (with_reducible apply go_kblock_ret)
           | ((with_reducible apply end_int); rfl)
    · have h2 : i < l.length := by omega
      exact (idxOf_some h2 h fun j hj => hC j hj (by omega)).symm
    · have h2 : i < l.length := by omega
      refine ⟨by omega, fun j hj hj' => ?_, entails_eq (k := 0) (ns := []) (ks := [8, 7, 0, 1]) [] rfl (by simp) (e8 _)⟩
      rcases Nat.lt_succ_iff_lt_or_eq.1 hj with h' | rfl
      · exact hC j h' hj'
      · exact h
  · refine (idxOf_none fun x hx => ?_).symm
    obtain ⟨j, hj, rfl⟩ := List.mem_iff_getElem.1 hx
    exact hC j (by omega) hj


theorem c124v (l : List Int) (hl : l.length < 1000000000000) (g : FuncId) (ys : List D) (hst : Stab ys) (hpu : pureL ys = true) (p : Int → Bool) (hf : ∀ x ∈ l, Contract Tryz.prog g (.int .i64 x :: ys) (.ret (.bool (p x)))) :
    Contract Tryz.prog 61 [.sl (l.map encInt), .clo (.func g) [] ys] (.ret (.bool (l.any p))) := by
  refine contract_of mix Tryz.func61 rfl rfl (by rw [Tryz.ntmps61]; exact Nat.le_of_ble_eq_true rfl) ?_; rw [Tryz.results61, Tryz.ntmps61]; simp only [argsE, Nat.reduceAdd]
  repeat' first
           | (with_reducible apply go_op)
           | (with_reducible apply go_next)
           | ((with_reducible (show evOp _ _ _ _ _ _)); first
             | ((with_reducible (show evOp _ (.move _) _ _ _ _)) ; first | ((with_reducible apply go_mv_bool); rfl; rfl) | ((with_reducible apply go_mv_sl); rfl; rfl) | ((with_reducible apply go_mv_clo); rfl; rfl))
             | ((with_reducible apply go_as)))
           | ((with_reducible (show evOps _ _ _ _ _ _)); first
             | (with_reducible apply go_nil))
           | ((with_reducible (show evG _ _ _ _ _)); first
             | (with_reducible apply go_seq)
             | (with_reducible apply go_region))
           | (with_reducible apply go_kseq)
  refine go_fn_int (args' := [.sl (l.map encInt), .clo (.func g) [] ys]) ?_ (c165v l hl g ys hst hpu p hf) rfl ?_
  · have e := hst (lkH []) 45
    simp only [List.map_cons, List.map_nil, evalD, lkE, purL, pur, Option.bind_some, Option.map_some, Nat.reduceEqDiff, if_true, if_false, e]
  repeat' first
           | (with_reducible apply go_op)
           | (with_reducible apply go_next)
           | ((with_reducible (show evOp _ _ _ _ _ _)); first
             | (((with_reducible apply go_mv_bool); rfl; rfl))
             | ((with_reducible apply go_as))
             | (((with_reducible apply go_cmp); rfl; rfl; rfl; rfl)))
           | ((with_reducible (show evOps _ _ _ _ _ _)); first
             | (with_reducible apply go_nil))
           | ((with_reducible (show evG _ _ _ _ _)); first
             | (with_reducible apply go_ret))
           | (with_reducible apply go_kseq)
           | ((with_reducible apply end_bool); rfl)
  exact idxOf_ge

theorem c198 (n lo hi : Int) : Contract Tryz.prog 140 [.int .i64 n, .ptr [.int .i64 lo], .ptr [.int .i64 hi]] (.ret (.bool (decide (n < lo ∨ hi < n)))) := by
  refine contract_of mix Tryz.func140 rfl rfl (by rw [Tryz.ntmps140]; exact Nat.le_of_ble_eq_true rfl) ?_; rw [Tryz.results140, Tryz.ntmps140]; simp only [argsE, Nat.reduceAdd]
  repeat' first
           | (with_reducible apply go_op)
           | (with_reducible apply go_next)
           | ((with_reducible (show evOp _ _ _ _ _ _)); first
             | ((with_reducible (show evOp _ (.move _) _ _ _ _)) ; first | ((with_reducible apply go_mv_int); rfl; rfl) | ((with_reducible apply go_mv_bool); rfl; rfl))
             | ((with_reducible apply go_as))
             | (((with_reducible apply go_load); rfl; rfl; rfl))
             | (((with_reducible apply go_cmp); rfl; rfl; rfl; rfl))
             | (((with_reducible apply go_pick); rfl; rfl; rfl)))
           | ((with_reducible (show evOps _ _ _ _ _ _)); first
             | (with_reducible apply go_nil)
             | ((with_reducible apply go_run); rfl; rfl)
             | ((with_reducible apply go_pass); rfl; rfl; rfl)
             | (((with_reducible apply go_guard); rfl) <;> (intro h; simp only [h, Bool.not_true, Bool.not_false]; (try with_reducible (refine ⟨rfl, ?_⟩)); try simp only [decide_eq_true_eq, decide_eq_false_iff_not, Bool.not_eq_true', Bool.not_eq_false', Bool.not_true, Bool.not_false] at h; try exact absurd trivial h)))
           | ((with_reducible (show evG _ _ _ _ _)); first
             | (with_reducible apply go_seq)
             | (with_reducible apply go_region)
             | (with_reducible apply go_ret))
           | (with_reducible apply go_kseq)
           | ((with_reducible apply end_bool); rfl)
  · exact decide_eq_decide.2 (by omega)
  · exact (decide_eq_true (.inl h)).symm

def betw (lo hi : Int) (l : List Int) : Bool := !l.any fun n => decide (n < lo ∨ hi < n)
theorem c174 (lo hi : Int) (l : List Int) (hl : l.length < 1000000000000) : Contract Tryz.prog 106 [.int .i64 lo, .int .i64 hi, .sl (l.map encInt)] (.ret (.bool (betw lo hi l))) := by
  refine contract_of mix Tryz.func106 rfl rfl (by rw [Tryz.ntmps106]; exact Nat.le_of_ble_eq_true rfl) ?_; rw [Tryz.results106, Tryz.ntmps106]; simp only [argsE, Nat.reduceAdd]
  repeat' first
           | (with_reducible apply go_op)
           | (with_reducible apply go_next)
           | ((with_reducible (show evOp _ _ _ _ _ _)); first
             | ((with_reducible (show evOp _ (.move _) _ _ _ _)) ; first | ((with_reducible apply go_mv_bool); rfl; rfl) | ((with_reducible apply go_mv_sl); rfl; rfl))
             | ((with_reducible apply go_as))
             | (((with_reducible apply go_bx_int); rfl; rfl))
             | (((with_reducible apply go_fn2); rfl; rfl; rfl)))
           | ((with_reducible (show evOps _ _ _ _ _ _)); first
             | (with_reducible apply go_nil))
           | ((with_reducible (show evG _ _ _ _ _)); first
             | (with_reducible apply go_seq)
             | (with_reducible apply go_region))
           | (with_reducible apply go_kseq)
  refine go_fn_bool (args' := [.sl (l.map encInt), .clo (.func 140) [] [.ptr [.int .i64 lo], .ptr [.int .i64 hi]]]) rfl (c124v l hl 140 _ (fun _ _ => rfl) rfl (fun n => decide (n < lo ∨ hi < n)) fun x _ => c198 x lo hi) rfl ?_
  repeat' first
           | (with_reducible apply go_op)
           | (with_reducible apply go_next)
           | ((with_reducible (show evOp _ _ _ _ _ _)); first
             | (((with_reducible apply go_mv_bool); rfl; rfl))
             | ((with_reducible apply go_as))
             | (((with_reducible apply go_not); rfl; rfl)))
           | ((with_reducible (show evOps _ _ _ _ _ _)); first
             | (with_reducible apply go_nil))
           | ((with_reducible (show evG _ _ _ _ _)); first
             | (with_reducible apply go_ret))
           | (with_reducible apply go_kseq)
           | ((with_reducible apply end_bool); rfl)
  rfl

theorem betw1 (lo hi n : Int) : betw lo hi [n] = decide (lo ≤ n ∧ n ≤ hi) := by
  simp only [betw, List.any_cons, List.any_nil, Bool.or_false, ← decide_not]
  exact decide_eq_decide.2 (by omega)
theorem betw2 (lo hi n m : Int) : betw lo hi [n, m] = decide ((lo ≤ n ∧ n ≤ hi) ∧ (lo ≤ m ∧ m ≤ hi)) := by
  simp only [betw, List.any_cons, List.any_nil, Bool.or_false, Bool.not_or, ← decide_not, ← Bool.decide_and]
  exact decide_eq_decide.2 (by omega)
theorem c174' (lo hi n : Int) : Contract Tryz.prog 106 [.int .i64 lo, .int .i64 hi, .sl [[.int .i64 n]]] (.ret (.bool (decide (lo ≤ n ∧ n ≤ hi)))) := betw1 lo hi n ▸ c174 lo hi [n] (by simp)
theorem c174'' (lo hi n m : Int) : Contract Tryz.prog 106 [.int .i64 lo, .int .i64 hi, .sl [[.int .i64 n], [.int .i64 m]]] (.ret (.bool (decide ((lo ≤ n ∧ n ≤ hi) ∧ (lo ≤ m ∧ m ≤ hi))))) := betw2 lo hi n m ▸ c174 lo hi [n, m] (by simp)

theorem c180 (n : Int) : Contract Tryz.prog 108 [.int .i64 n] (.ret (.bool (lvOK n))) := by
  refine contract_of mix Tryz.func108 rfl rfl (by rw [Tryz.ntmps108]; exact Nat.le_of_ble_eq_true rfl) ?_; rw [Tryz.results108, Tryz.ntmps108]; simp only [argsE, Nat.reduceAdd]
  repeat' first
           | (with_reducible apply go_op)
           | (with_reducible apply go_next)
           | ((with_reducible (show evOp _ _ _ _ _ _)); first
             | ((with_reducible (show evOp _ (.move _) _ _ _ _)) ; first | ((with_reducible apply go_mv_int); rfl; rfl) | ((with_reducible apply go_mv_bool); rfl; rfl))
             | ((with_reducible apply go_as))
             | (((with_reducible apply go_fn_bool); rfl; (exact c174' _ _ _); rfl))
             | (((with_reducible apply go_bs1_int); rfl; rfl; rfl)))
           | ((with_reducible (show evOps _ _ _ _ _ _)); first
             | (with_reducible apply go_nil))
           | ((with_reducible (show evG _ _ _ _ _)); first
             | (with_reducible apply go_seq)
             | (with_reducible apply go_region)
             | (with_reducible apply go_ret))
           | (with_reducible apply go_kseq)
           | ((with_reducible apply end_bool); rfl)
  rfl

/-- A level that is neither one nor empty. -/
def badLv (n : Int) : Bool := decide (n ≠ 30000) && !lvOK n
theorem c179 (n : Int) : Contract Tryz.prog 107 [.int .i64 n] (.ret (.bool (badLv n))) := by
  refine contract_of mix Tryz.func107 rfl rfl (by rw [Tryz.ntmps107]; exact Nat.le_of_ble_eq_true rfl) ?_; rw [Tryz.results107, Tryz.ntmps107]; simp only [argsE, Nat.reduceAdd]
  repeat' first
           | (with_reducible apply go_op)
           | (with_reducible apply go_next)
           | ((with_reducible (show evOp _ _ _ _ _ _)); first
             | ((with_reducible (show evOp _ (.move _) _ _ _ _)) ; first | ((with_reducible apply go_mv_int); rfl; rfl) | ((with_reducible apply go_mv_bool); rfl; rfl))
             | ((with_reducible apply go_as))
             | (((with_reducible apply go_cmp); rfl; rfl; rfl; rfl))
             | (((with_reducible apply go_fn_bool); rfl; (exact c180 _); rfl))
             | (((with_reducible apply go_not); rfl; rfl))
             | (((with_reducible apply go_pick); rfl; rfl; rfl)))
           | ((with_reducible (show evOps _ _ _ _ _ _)); first
             | (with_reducible apply go_nil)
             | ((with_reducible apply go_run); rfl; rfl)
             | ((with_reducible apply go_pass); rfl; rfl; rfl)
             | (((with_reducible apply go_guard); rfl) <;> (intro h; simp only [h, Bool.not_true, Bool.not_false]; (try with_reducible (refine ⟨rfl, ?_⟩)); try simp only [decide_eq_true_eq, decide_eq_false_iff_not, Bool.not_eq_true', Bool.not_eq_false', Bool.not_true, Bool.not_false] at h; try exact absurd trivial h)))
           | ((with_reducible (show evG _ _ _ _ _)); first
             | (with_reducible apply go_seq)
             | (with_reducible apply go_region)
             | (with_reducible apply go_ret))
           | (with_reducible apply go_kseq)
           | ((with_reducible apply end_bool); rfl)
  · simp [badLv, h]
  · simp [badLv, h]

structure Grid where
  x : Int
  y : Int
  side : Int
  cols : Int
  rows : Int
  levels : List Int
def encGrid (g : Grid) : List D := [.int .i64 g.x, .int .i64 g.y, .int .i64 g.side, .int .i64 g.cols, .int .i64 g.rows, .sl (g.levels.map encInt)]
def gridE (g : Grid) : Int :=
  if ¬ (((-1000000 ≤ g.x ∧ g.x ≤ 1000000) ∧ -1000000 ≤ g.y ∧ g.y ≤ 1000000) ∧ (100 ≤ g.side ∧ g.side ≤ 10000) ∧ (1 ≤ g.cols ∧ g.cols ≤ 1024) ∧ 1 ≤ g.rows ∧ g.rows ≤ 1024) then 2
  else if 1024 < g.cols * g.rows then 8
  else if 1000000 < g.x + g.cols * g.side ∨ 1000000 < g.y + g.rows * g.side then 2
  else if (g.levels.length : Int) ≠ g.cols * g.rows then 10
  else if g.levels.any badLv then 2 else 0

theorem mul_bd {a b m n : Int} (ha : 1 ≤ a ∧ a ≤ m) (hb : 1 ≤ b ∧ b ≤ n) : 1 ≤ a * b ∧ a * b ≤ m * n := by
  constructor
  · exact Int.le_trans (by decide : (1 : Int) ≤ 1 * 1) (Int.mul_le_mul ha.1 hb.1 (by omega) (by omega))
  · exact Int.mul_le_mul ha.2 hb.2 (by omega) (by omega)

theorem c144 (g : Grid) (hl : g.levels.length < 1000000000000) : Contract Tryz.prog 73 [.agg (encGrid g)] (.ret (.int .i64 (gridE g))) := by
  by_cases hg : ((-1000000 ≤ g.x ∧ g.x ≤ 1000000) ∧ -1000000 ≤ g.y ∧ g.y ≤ 1000000) ∧ (100 ≤ g.side ∧ g.side ≤ 10000) ∧ (1 ≤ g.cols ∧ g.cols ≤ 1024) ∧ 1 ≤ g.rows ∧ g.rows ≤ 1024
  · have b1 := mul_bd hg.2.2.1 hg.2.2.2
    have b2 := mul_bd hg.2.2.1 (b := g.side) (n := 10000) (by omega)
    have b3 := mul_bd hg.2.2.2 (b := g.side) (n := 10000) (by omega)
    refine contract_of mix Tryz.func73 rfl rfl (by rw [Tryz.ntmps73]; exact Nat.le_of_ble_eq_true rfl) ?_; rw [Tryz.results73, Tryz.ntmps73]; simp only [argsE, Nat.reduceAdd]
    repeat' first
           | (with_reducible apply go_op)
           | (with_reducible apply go_next)
           | ((with_reducible (show evOp _ _ _ _ _ _)); first
             | ((with_reducible (show evOp _ (.move _) _ _ _ _)) ; first | ((with_reducible apply go_mv_int); rfl; rfl) | ((with_reducible apply go_mv_bool); rfl; rfl))
             | ((with_reducible apply go_as))
             | (((with_reducible apply go_load_own); rfl; rfl; rfl; rfl))
             | (((with_reducible apply go_fieldAddr_own); rfl; rfl; rfl))
             | ((with_reducible (show evOp _ (.binOp _ _ _ _ _) _ _ _ _)) ; first | ((with_reducible apply go_cmp); rfl; rfl; rfl; rfl) | ((with_reducible apply go_add); rfl; rfl; rfl; omega) | ((with_reducible apply go_mul); rfl; rfl; rfl; omega))
             | ((with_reducible (show evOp _ (.call _) _ _ _ _)) ; first | ((with_reducible apply go_len); rfl; rfl) | ((with_reducible apply go_fn_bool); rfl; (exact c174' _ _ _); rfl) | ((with_reducible apply go_fn_bool); rfl; (exact c174'' _ _ _ _); rfl) | ((with_reducible apply go_fn_bool); rfl; (exact c124 g.levels hl 107 badLv fun x _ => c179 x); rfl))
             | (((with_reducible apply go_not); rfl; rfl))
             | (((with_reducible apply go_pick); rfl; rfl; rfl))
             | (((with_reducible apply go_bx_agg); rfl; rfl; (exact Nat.le_of_ble_eq_true rfl); rfl; rfl))
             | ((with_reducible (show evOp _ (.buildSlice _ _ _) _ _ _ _)) ; first | ((with_reducible apply go_bs1_int); rfl; rfl; rfl) | ((with_reducible apply go_bs2_int); rfl; rfl; rfl; rfl)))
           | ((with_reducible (show evOps _ _ _ _ _ _)); first
             | (with_reducible apply go_nil)
             | ((with_reducible apply go_run); rfl; rfl)
             | ((with_reducible apply go_pass); rfl; rfl; rfl)
             | (((with_reducible apply go_guard); rfl) <;> (intro h; simp only [h, Bool.not_true, Bool.not_false]; (try with_reducible (refine ⟨rfl, ?_⟩)); try simp only [decide_eq_true_eq, decide_eq_false_iff_not, Bool.not_eq_true', Bool.not_eq_false', Bool.not_true, Bool.not_false] at h; try exact absurd trivial h)))
           | ((with_reducible (show evG _ _ _ _ _)); first
             | (with_reducible apply go_seq)
             | (with_reducible apply go_region)
             | ((with_reducible apply go_cond_t); rfl; rfl)
             | (((with_reducible apply go_cond); rfl) <;> (intro h; simp only [h]; try simp only [decide_eq_true_eq, decide_eq_false_iff_not, Bool.not_eq_true', Bool.not_eq_false', Bool.not_true, Bool.not_false] at h; try exact absurd trivial h))
             | (with_reducible apply go_ret)
             | (with_reducible apply go_skipc)
             | (with_reducible apply go_block))
           | (with_reducible apply go_kseq)
           | (with_reducible apply go_kseq_ret)
           | (with_reducible apply go_kblock)
           | (with_reducible apply go_kblock_ret)
           | ((with_reducible apply end_int); rfl)
    all_goals (unfold gridE; (repeat' split) <;> first | rfl | (exfalso; omega) | (exfalso; simp_all; done))
  · have e : gridE g = 2 := by unfold gridE; rw [if_pos hg]
    rw [e]
    refine contract_of mix Tryz.func73 rfl rfl (by rw [Tryz.ntmps73]; exact Nat.le_of_ble_eq_true rfl) ?_; rw [Tryz.results73, Tryz.ntmps73]; simp only [argsE, Nat.reduceAdd]
    repeat' first
           | (with_reducible apply go_op)
           | (with_reducible apply go_next)
           | ((with_reducible (show evOp _ _ _ _ _ _)); first
             | ((with_reducible (show evOp _ (.move _) _ _ _ _)) ; first | ((with_reducible apply go_mv_int); rfl; rfl) | ((with_reducible apply go_mv_bool); rfl; rfl))
             | ((with_reducible apply go_as))
             | (((with_reducible apply go_load_own); rfl; rfl; rfl; rfl))
             | (((with_reducible apply go_fieldAddr_own); rfl; rfl; rfl))
             | ((with_reducible (show evOp _ (.binOp _ _ _ _ _) _ _ _ _)) ; first | ((with_reducible apply go_cmp); rfl; rfl; rfl; rfl) | ((with_reducible apply go_add); rfl; rfl; rfl; omega) | ((with_reducible apply go_mul); rfl; rfl; rfl; omega))
             | ((with_reducible (show evOp _ (.call _) _ _ _ _)) ; first | ((with_reducible apply go_len); rfl; rfl) | ((with_reducible apply go_fn_bool); rfl; (exact c174' _ _ _); rfl) | ((with_reducible apply go_fn_bool); rfl; (exact c174'' _ _ _ _); rfl))
             | (((with_reducible apply go_not); rfl; rfl))
             | (((with_reducible apply go_pick); rfl; rfl; rfl))
             | (((with_reducible apply go_bx_agg); rfl; rfl; (exact Nat.le_of_ble_eq_true rfl); rfl; rfl))
             | ((with_reducible (show evOp _ (.buildSlice _ _ _) _ _ _ _)) ; first | ((with_reducible apply go_bs1_int); rfl; rfl; rfl) | ((with_reducible apply go_bs2_int); rfl; rfl; rfl; rfl)))
           | ((with_reducible (show evOps _ _ _ _ _ _)); first
             | (with_reducible apply go_nil)
             | ((with_reducible apply go_run); rfl; rfl)
             | ((with_reducible apply go_pass); rfl; rfl; rfl)
             | (((with_reducible apply go_guard); rfl) <;> (intro h; simp only [h, Bool.not_true, Bool.not_false]; (try with_reducible (refine ⟨rfl, ?_⟩)); try simp only [decide_eq_true_eq, decide_eq_false_iff_not, Bool.not_eq_true', Bool.not_eq_false', Bool.not_true, Bool.not_false] at h; try exact absurd trivial h)))
           | ((with_reducible (show evG _ _ _ _ _)); first
             | (with_reducible apply go_seq)
             | (with_reducible apply go_region)
             | ((with_reducible apply go_cond_t); rfl; rfl)
             | (((with_reducible apply go_cond); rfl) <;> (intro h; simp only [h]; try simp only [decide_eq_true_eq, decide_eq_false_iff_not, Bool.not_eq_true', Bool.not_eq_false', Bool.not_true, Bool.not_false] at h; try exact absurd trivial h))
             | (with_reducible apply go_ret)
             | (with_reducible apply go_block))
           | (with_reducible apply go_kseq)
           | (with_reducible apply go_kseq_ret)
           | (with_reducible apply go_kblock_ret)
           | ((with_reducible apply end_int); rfl)
           | (with_reducible rfl)
    all_goals first | rfl | (exfalso; omega)

def alikeE (a b : Grid) : Bool := decide (a.x = b.x ∧ a.y = b.y ∧ a.side = b.side ∧ a.cols = b.cols ∧ a.rows = b.rows)
theorem c145 (a b : Grid) : Contract Tryz.prog 135 [.agg (encGrid a), .agg (encGrid b)] (.ret (.bool (alikeE a b))) := by
  refine contract_of mix Tryz.func135 rfl rfl (by rw [Tryz.ntmps135]; exact Nat.le_of_ble_eq_true rfl) ?_; rw [Tryz.results135, Tryz.ntmps135]; simp only [argsE, Nat.reduceAdd]
  repeat' first
           | (with_reducible apply go_op)
           | (with_reducible apply go_next)
           | ((with_reducible (show evOp _ _ _ _ _ _)); first
             | (((with_reducible apply go_mv_bool); rfl; rfl))
             | ((with_reducible apply go_as))
             | (((with_reducible apply go_load_own); rfl; rfl; rfl; rfl))
             | (((with_reducible apply go_fieldAddr_own); rfl; rfl; rfl))
             | (((with_reducible apply go_cmp); rfl; rfl; rfl; rfl))
             | (((with_reducible apply go_pick); rfl; rfl; rfl))
             | (((with_reducible apply go_bx_agg); rfl; rfl; (exact Nat.le_of_ble_eq_true rfl); rfl; rfl)))
           | ((with_reducible (show evOps _ _ _ _ _ _)); first
             | (with_reducible apply go_nil)
             | ((with_reducible apply go_run); rfl; rfl)
             | ((with_reducible apply go_pass); rfl; rfl; rfl)
             | (((with_reducible apply go_guard); rfl) <;> (intro h; simp only [h, Bool.not_true, Bool.not_false]; (try with_reducible (refine ⟨rfl, ?_⟩)); try simp only [decide_eq_true_eq, decide_eq_false_iff_not, Bool.not_eq_true', Bool.not_eq_false', Bool.not_true, Bool.not_false] at h; try exact absurd trivial h)))
           | ((with_reducible (show evG _ _ _ _ _)); first
             | (with_reducible apply go_seq)
             | (with_reducible apply go_region)
             | (with_reducible apply go_ret))
           | (with_reducible apply go_kseq)
           | ((with_reducible apply end_bool); rfl)
  all_goals simp [alikeE, *]
theorem c28 (g : Grid) (hl : g.levels.length < 1000000000000) : Contract Tryz.prog 13 [.agg (encGrid g)] (.ret (.int .i64 (gridE g))) := by
  by_cases hg : ((-1000000 ≤ g.x ∧ g.x ≤ 1000000) ∧ -1000000 ≤ g.y ∧ g.y ≤ 1000000) ∧ (100 ≤ g.side ∧ g.side ≤ 10000) ∧ (1 ≤ g.cols ∧ g.cols ≤ 1024) ∧ 1 ≤ g.rows ∧ g.rows ≤ 1024
  · have b1 := mul_bd hg.2.2.1 hg.2.2.2
    have b2 := mul_bd hg.2.2.1 (b := g.side) (n := 10000) (by omega)
    have b3 := mul_bd hg.2.2.2 (b := g.side) (n := 10000) (by omega)
    refine contract_of mix Tryz.func13 rfl rfl (by rw [Tryz.ntmps13]; exact Nat.le_of_ble_eq_true rfl) ?_; rw [Tryz.results13, Tryz.ntmps13]; simp only [argsE, Nat.reduceAdd]
    repeat' first
           | (with_reducible apply go_op)
           | (with_reducible apply go_next)
           | ((with_reducible (show evOp _ _ _ _ _ _)); first
             | ((with_reducible (show evOp _ (.move _) _ _ _ _)) ; first | ((with_reducible apply go_mv_int); rfl; rfl) | ((with_reducible apply go_mv_bool); rfl; rfl))
             | ((with_reducible apply go_as))
             | (((with_reducible apply go_load_own); rfl; rfl; rfl; rfl))
             | (((with_reducible apply go_fieldAddr_own); rfl; rfl; rfl))
             | ((with_reducible (show evOp _ (.binOp _ _ _ _ _) _ _ _ _)) ; first | ((with_reducible apply go_cmp); rfl; rfl; rfl; rfl) | ((with_reducible apply go_add); rfl; rfl; rfl; omega) | ((with_reducible apply go_mul); rfl; rfl; rfl; omega))
             | ((with_reducible (show evOp _ (.call _) _ _ _ _)) ; first | ((with_reducible apply go_len); rfl; rfl) | ((with_reducible apply go_fn_bool); rfl; (exact c38 _ _ _); rfl))
             | (((with_reducible apply go_not); rfl; rfl))
             | (((with_reducible apply go_pick); rfl; rfl; rfl))
             | (((with_reducible apply go_bx_agg); rfl; rfl; (exact Nat.le_of_ble_eq_true rfl); rfl; rfl)))
           | ((with_reducible (show evOps _ _ _ _ _ _)); first
             | (with_reducible apply go_nil)
             | ((with_reducible apply go_run); rfl; rfl)
             | ((with_reducible apply go_pass); rfl; rfl; rfl)
             | (((with_reducible apply go_guard); rfl) <;> (intro h; simp only [h, Bool.not_true, Bool.not_false]; (try with_reducible (refine ⟨rfl, ?_⟩)); try simp only [decide_eq_true_eq, decide_eq_false_iff_not, Bool.not_eq_true', Bool.not_eq_false', Bool.not_true, Bool.not_false] at h; try exact absurd trivial h)))
           | ((with_reducible (show evG _ _ _ _ _)); first
             | (with_reducible apply go_seq)
             | (with_reducible apply go_region)
             | ((with_reducible apply go_cond_t); rfl; rfl)
             | (((with_reducible apply go_cond); rfl) <;> (intro h; simp only [h]; try simp only [decide_eq_true_eq, decide_eq_false_iff_not, Bool.not_eq_true', Bool.not_eq_false', Bool.not_true, Bool.not_false] at h; try exact absurd trivial h))
             | (with_reducible apply go_ret)
             | (with_reducible apply go_skipc)
             | (with_reducible apply go_block))
           | (with_reducible apply go_kseq)
           | (with_reducible apply go_kseq_ret)
           | ((with_reducible apply end_int); rfl)
    all_goals first | (unfold gridE; (repeat' split) <;> first | rfl | (exfalso; omega) | (exfalso; simp_all; done)) | skip
    have e : gridE g = if g.levels.any badLv then 2 else 0 := by
      unfold gridE; rw [if_neg (by omega), if_neg (by omega), if_neg (by omega), if_neg (by omega)]
    rw [e]
    refine go_count (g.levels.length) (fun i => ⟨[(3, .int .i64 i), (1, .op 0 0 0)], [(0, ⟨6, true, [encGrid g]⟩)], 32, 89⟩) (fun i => ∀ j (hj : j < i) (hj' : j < g.levels.length), badLv g.levels[j] = false) (entails_eq (k := 0) (ns := []) (ks := [3, 1]) [(0, 0)] rfl (by simp) rfl) (fun j h _ => absurd h (Nat.not_lt_zero _)) ?_
    intro i hi hC
    repeat' first
           | (with_reducible apply go_op)
           | (with_reducible apply go_next)
           | ((with_reducible (show evOp _ _ _ _ _ _)); first
             | ((with_reducible (show evOp _ (.move _) _ _ _ _)) ; first | ((with_reducible apply go_mv_int); rfl; rfl) | ((with_reducible apply go_mv_bool); rfl; rfl))
             | ((with_reducible apply go_as))
             | ((with_reducible (show evOp _ (.load _ _) _ _ _ _)) ; first | ((with_reducible apply go_load); rfl; rfl; rfl) | ((with_reducible apply go_load_own); rfl; rfl; rfl; rfl))
             | (((with_reducible apply go_fieldAddr_own); rfl; rfl; rfl))
             | (((with_reducible apply go_index_nat); rfl; rfl; (with_reducible rfl); (intro; rfl); rfl; omega; (intro hlt)))
             | ((with_reducible (show evOp _ (.binOp _ _ _ _ _) _ _ _ _)) ; first | ((with_reducible apply go_cmp); rfl; rfl; rfl; rfl) | ((with_reducible apply go_add); rfl; rfl; rfl; omega))
             | ((with_reducible (show evOp _ (.call _) _ _ _ _)) ; first | ((with_reducible apply go_len); rfl; rfl) | ((with_reducible apply go_fn_bool); rfl; (exact c48 _); rfl))
             | (((with_reducible apply go_not); rfl; rfl))
             | (((with_reducible apply go_pick); rfl; rfl; rfl)))
           | ((with_reducible (show evOps _ _ _ _ _ _)); first
             | (with_reducible apply go_nil)
             | ((with_reducible apply go_run); rfl; rfl)
             | ((with_reducible apply go_pass); rfl; rfl; rfl)
             | (((with_reducible apply go_guard); rfl) <;> (intro h; simp only [h, Bool.not_true, Bool.not_false]; (try with_reducible (refine ⟨rfl, ?_⟩)); try simp only [decide_eq_true_eq, decide_eq_false_iff_not, Bool.not_eq_true', Bool.not_eq_false', Bool.not_true, Bool.not_false] at h; try exact absurd trivial h)))
           | ((with_reducible (show evG _ _ _ _ _)); first
             | (with_reducible apply go_seq)
             | (with_reducible apply go_region)
             | ((with_reducible apply go_cond_f); rfl; rfl)
             | (((with_reducible apply go_cond); rfl) <;> (intro h; simp only [h]; try simp only [decide_eq_true_eq, decide_eq_false_iff_not, Bool.not_eq_true', Bool.not_eq_false', Bool.not_true, Bool.not_false] at h; try exact absurd trivial h))
             | (with_reducible apply go_ret)
             | (with_reducible apply go_skipc)
             | (with_reducible apply go_block)
             | (with_reducible apply go_exit))
           | (with_reducible apply go_kseq)
           | (with_reducible apply go_kseq_ret)
           | (with_reducible apply go_kblock)
           | (with_reducible apply go_kblock_ret)
           | (with_reducible apply go_kblock_exit)
           | (with_reducible apply go_kseq_exit)
           | ((with_reducible apply end_int); rfl)
    · have h1 : ¬ g.levels[i] = 30000 := by assumption
      rw [if_pos (List.any_eq_true.2 ⟨g.levels[i], List.getElem_mem _, by simp [badLv, h, h1]⟩)]
    · have h2 : i < g.levels.length := by omega
      refine ⟨h2, fun j hj hj' => ?_, entails_eq (k := 0) (ns := []) (ks := [3, 1]) [(0, 0)] rfl (by simp) rfl⟩
      rcases Nat.lt_succ_iff_lt_or_eq.1 hj with h' | rfl
      · exact hC j h' hj'
      · simp [badLv, h]
    · have h2 : i < g.levels.length := by omega
      refine ⟨h2, fun j hj hj' => ?_, entails_eq (k := 0) (ns := []) (ks := [3, 1]) [(0, 0)] rfl (by simp) rfl⟩
      rcases Nat.lt_succ_iff_lt_or_eq.1 hj with h' | rfl
      · exact hC j h' hj'
      · simp [badLv, h]
    · rw [if_neg]
      intro hh
      obtain ⟨x, hx, hb⟩ := List.any_eq_true.1 hh
      obtain ⟨j, hj, rfl⟩ := List.mem_iff_getElem.1 hx
      rw [hC j (by omega) hj] at hb
      cases hb
  · have e : gridE g = 2 := by unfold gridE; rw [if_pos hg]
    rw [e]
    refine contract_of mix Tryz.func13 rfl rfl (by rw [Tryz.ntmps13]; exact Nat.le_of_ble_eq_true rfl) ?_; rw [Tryz.results13, Tryz.ntmps13]; simp only [argsE, Nat.reduceAdd]
    repeat' first
           | (with_reducible apply go_op)
           | (with_reducible apply go_next)
           | ((with_reducible (show evOp _ _ _ _ _ _)); first
             | ((with_reducible (show evOp _ (.move _) _ _ _ _)) ; first | ((with_reducible apply go_mv_int); rfl; rfl) | ((with_reducible apply go_mv_bool); rfl; rfl))
             | ((with_reducible apply go_as))
             | (((with_reducible apply go_load_own); rfl; rfl; rfl; rfl))
             | (((with_reducible apply go_fieldAddr_own); rfl; rfl; rfl))
             | ((with_reducible (show evOp _ (.binOp _ _ _ _ _) _ _ _ _)) ; first | ((with_reducible apply go_cmp); rfl; rfl; rfl; rfl) | ((with_reducible apply go_add); rfl; rfl; rfl; omega) | ((with_reducible apply go_mul); rfl; rfl; rfl; omega))
             | ((with_reducible (show evOp _ (.call _) _ _ _ _)) ; first | ((with_reducible apply go_len); rfl; rfl) | ((with_reducible apply go_fn_bool); rfl; (exact c38 _ _ _); rfl))
             | (((with_reducible apply go_not); rfl; rfl))
             | (((with_reducible apply go_pick); rfl; rfl; rfl))
             | (((with_reducible apply go_bx_agg); rfl; rfl; (exact Nat.le_of_ble_eq_true rfl); rfl; rfl)))
           | ((with_reducible (show evOps _ _ _ _ _ _)); first
             | (with_reducible apply go_nil)
             | ((with_reducible apply go_run); rfl; rfl)
             | ((with_reducible apply go_pass); rfl; rfl; rfl)
             | (((with_reducible apply go_guard); rfl) <;> (intro h; simp only [h, Bool.not_true, Bool.not_false]; (try with_reducible (refine ⟨rfl, ?_⟩)); try simp only [decide_eq_true_eq, decide_eq_false_iff_not, Bool.not_eq_true', Bool.not_eq_false', Bool.not_true, Bool.not_false] at h; try exact absurd trivial h)))
           | ((with_reducible (show evG _ _ _ _ _)); first
             | (with_reducible apply go_seq)
             | (with_reducible apply go_region)
             | ((with_reducible apply go_cond_t); rfl; rfl)
             | (((with_reducible apply go_cond); rfl) <;> (intro h; simp only [h]; try simp only [decide_eq_true_eq, decide_eq_false_iff_not, Bool.not_eq_true', Bool.not_eq_false', Bool.not_true, Bool.not_false] at h; try exact absurd trivial h))
             | (with_reducible apply go_ret)
             | (with_reducible apply go_skipc)
             | (with_reducible apply go_block))
           | (with_reducible apply go_kseq)
           | (with_reducible apply go_kseq_ret)
           | ((with_reducible apply end_int); rfl)
           | (with_reducible rfl)
    all_goals first | rfl | (exfalso; omega)
end Go.Pv.Soil

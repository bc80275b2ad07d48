import Derived.Test.YtbojgmhpmcnfjaaProg
import Derived.Test.YtbojgmhpmcnfjaaGB
import Derived.Test.YtbojgmhpmcnfjaaPvE
import Derived.KernelRfl
/- Part of the proofs over Ytbojgmhpmcnfjaa: H20, H21. -/
set_option linter.unusedVariables false
set_option linter.unusedSimpArgs false
set_option linter.unnecessarySimpa false
open Go Go.Proofs Go.Pv
set_option maxHeartbeats 4000000
set_option maxRecDepth 100000
set_option linter.unusedSimpArgs false
set_option linter.unusedVariables false
namespace Go.Pv.Geo
instance tintI' : TInt Try.prog 3 .i64 := ⟨by kernel_rfl⟩
instance tflo : TFloat Try.prog 118 := ⟨by kernel_rfl⟩
theorem ext1 : Extern.findNext Try.f129 = none := by kernel_rfl
theorem ext2 : Extern.find Try.f129 = some Extern.MathSqrt.sqrt := by kernel_rfl
theorem ext3 : (Try.f129.name == "runtime.NumGoroutine") = false := by kernel_rfl
theorem ext4 : Try.f129.body.isNone = true := by kernel_rfl
theorem run_ext (x r : Nat) (h : FloatKind.f64.format.sqrt x = some r) (w : World) : (callFunc 129 #[.float .f64 x]).run Try.prog w = .ok (.value (.float .f64 r)) w := by
  have hs : Extern.MathSqrt.sqrt #[.float .f64 x] = pure (.float .f64 r) := by
    show (match FloatKind.f64.format.sqrt x with
      | some r => (pure (Value.float .f64 r) : Sem Value)
      | none => do pure (Value.float .f64 (← choose (.nanBits .f64 x x)))) = _
    rw [h]
  unfold callFunc
  have n1 : ¬ Try.f129.name = "runtime.NumGoroutine" := by simpa using ext3
  have n2 : Try.f129.body = none := by simpa using ext4
  simp [Try.func129, ext1, ext2, n1, n2, hs]
theorem sqrt_calls (x r : Nat) (h : FloatKind.f64.format.sqrt x = some r) (w : World) : Calls Try.prog 123 #[.float .f64 x] w fun e w' => e = .returned (.float .f64 r) ∧ w' = w := by
  have h1 := run_ext x r h
  go_enter Try.func123, Try.ntmps123
  go_wp2
  go_ret
  exact ⟨rfl, rfl⟩
theorem c_Sqrt (x r : Nat) (h : FloatKind.f64.format.sqrt x = some r) : Contract Try.prog 123 [.float .f64 x] (.ret (.float .f64 r)) := by
  refine ⟨⟨Try.f123, Try.func123, rfl, by kernel_rfl⟩, fun S w args hS ⟨hl, ha⟩ => ?_⟩
  have e : args = #[.float .f64 x] := by
    match args, hl, ha with
    | ⟨[v]⟩, _, ha =>
      have := ha 0 v _ rfl rfl
      cases this with
      | float k n => rfl
  subst e
  refine (sqrt_calls x r h w).mono ?_
  rintro e w' ⟨rfl, rfl⟩
  refine ⟨Go.RowKit.Below.refl _ _, fun _ => False, fun g hg => hg.elim, _, rfl, fun n => ⟨fun _ => .pending, ⟨fun b blk hb => ?_, fun b _ => .inr rfl, fun b b' g o k sz o' k' sz' h => (by cases h), fun b g o k sz h => (by cases h), fun g hg => hg.elim⟩, .pure _ _ (.float _ _), fun b _ => rfl⟩⟩
  cases hb

/-- The least number whose square is at least s. -/
def IsSpan (s n : Int) : Prop := 0 ≤ n ∧ s ≤ n * n ∧ ∀ m, 0 ≤ m → m < n → m * m < s
theorem span_uniq {s n m : Int} (h : IsSpan s n) (h' : IsSpan s m) : n = m := by
  rcases Int.lt_trichotomy n m with hlt | he | hlt
  · have := h'.2.2 n h.1 hlt; have := h.2.1; omega
  · exact he
  · have := h.2.2 m h'.1 hlt; have := h'.2.1; omega
noncomputable def spanE (s : Int) : Int := Classical.epsilon (IsSpan s)
theorem spanE_eq {s n : Int} (h : IsSpan s n) : spanE s = n := span_uniq (Classical.epsilon_spec (p := IsSpan s) ⟨n, h⟩) h
theorem sq_mono {m n : Int} (h0 : 0 ≤ m) (h : m ≤ n) : m * m ≤ n * n := Int.mul_le_mul h h h0 (by omega)
theorem sqE_bd {a b : Pt} (ha : ptOK a = true) (hb : ptOK b = true) : 0 ≤ sqE a b ∧ sqE a b ≤ 8000000000000 := by
  have h1 := pt_bd ha
  have h2 := pt_bd hb
  have m1 := mul4 (u := b.x - a.x) (v := b.x - a.x) (by omega) (by omega)
  have m2 := mul4 (u := b.y - a.y) (v := b.y - a.y) (by omega) (by omega)
  have n1 : 0 ≤ (b.x - a.x) * (b.x - a.x) := by rcases Int.le_total 0 (b.x - a.x) with h | h; exact Int.mul_nonneg h h; exact Int.mul_nonneg_of_nonpos_of_nonpos h h
  have n2 : 0 ≤ (b.y - a.y) * (b.y - a.y) := by rcases Int.le_total 0 (b.y - a.y) with h | h; exact Int.mul_nonneg h h; exact Int.mul_nonneg_of_nonpos_of_nonpos h h
  simp only [sqE, dotE]
  omega
theorem span_ex {s : Int} : ∀ N : Nat, s ≤ (N : Int) * N → ∃ n : Int, n ≤ N ∧ IsSpan s n
  | 0, h => ⟨0, by omega, by omega, by omega, fun m h1 h2 => by omega⟩
  | N + 1, h => by
    by_cases h' : s ≤ (N : Int) * N
    · obtain ⟨n, h1, h2⟩ := span_ex N h'
      exact ⟨n, by omega, h2⟩
    · exact ⟨((N + 1 : Nat) : Int), by omega, by omega, h, fun m h1 h2 => by have := sq_mono h1 (show m ≤ (N : Int) by omega); omega⟩
theorem span_is {s : Int} (h : s ≤ 8000000000000) : IsSpan s (spanE s) ∧ spanE s ≤ 4000000 := by
  obtain ⟨n, h1, h2⟩ := span_ex (s := s) 4000000 (by omega)
  rw [spanE_eq h2]
  exact ⟨h2, h1⟩
theorem c_span (a b : Pt) (ha : ptOK a = true) (hb : ptOK b = true) : Contract Try.prog 99 [.agg (encPt a), .agg (encPt b)] (.ret (.int .i64 (spanE (sqE a b)))) := by
  have hbd := sqE_bd ha hb
  have hd : Contract Try.prog 100 [.agg (encPt a), .agg (encPt b), .agg (encPt b)] (.ret (.int .i64 (sqE a b))) := c_dot a b b ha hb hb
  generalize sqE a b = s at *
  obtain ⟨r, n0, hr, hn, hn0⟩ := Sq.sqrt_small s.toNat (by omega)
  have hsn : ((s.toNat : Nat) : Int) = s := by omega
  rw [hsn] at hr
  have hS := c_Sqrt _ _ hr
  refine contract_of mix Try.func99 rfl rfl (by rw [Try.ntmps99]; exact Nat.le_of_ble_eq_true rfl) ?_; rw [Try.results99, Try.ntmps99]; simp only [argsE, Nat.reduceAdd]
  repeat' first
           | (with_reducible apply go_op)
           | (with_reducible apply go_next)
           | ((with_reducible (show evOp _ _ _ _ _ _)); first
             | (((with_reducible apply go_mv_int); rfl; rfl))
             | ((with_reducible apply go_as))
             | (((with_reducible apply go_ld_agg); rfl; rfl; rfl; rfl))
             | ((with_reducible (show evOp _ (.call _) _ _ _ _)) ; first | ((with_reducible apply go_fn_int); rfl; (exact hd); rfl) | ((with_reducible apply go_fn_float); rfl; (exact hS); rfl))
             | (((with_reducible apply go_conv_if); rfl; rfl))
             | (((with_reducible apply go_bx_agg); rfl; rfl; (exact Nat.le_of_ble_eq_true rfl); rfl; rfl)))
           | ((with_reducible (show evOps _ _ _ _ _ _)); first
             | (with_reducible apply go_nil))
           | ((with_reducible (show evG _ _ _ _ _)); first
             | (with_reducible apply go_seq)
             | (with_reducible apply go_region))
           | (with_reducible apply go_kseq)
  refine go_conv_fi rfl hn (by omega) rfl ?_
  repeat' first
           | (with_reducible apply go_op)
           | (with_reducible apply go_next)
           | ((with_reducible (show evOp _ _ _ _ _ _)); first
             | (((with_reducible apply go_mv_int); rfl; rfl))
             | ((with_reducible apply go_as)))
           | ((with_reducible (show evOps _ _ _ _ _ _)); first
             | (with_reducible apply go_nil))
           | ((with_reducible (show evG _ _ _ _ _)); first
             | (with_reducible apply go_seq)
             | (with_reducible apply go_block))
           | (with_reducible apply go_kseq)
  refine go_while (fun n : Int => (20000000 - n).toNat) (fun n => ⟨[(6, .int .i64 n), (5, .int .i64 s)], [], 0, 36⟩) (fun n => 0 ≤ n ∧ n ≤ 16777216) (n0 : Int)
    (entails_eq (nx := 0) (k := 0) (ns := []) (ks := [6, 5]) [] rfl (by simp) (by kernel_rfl)) (by omega) ?_
  rintro n ⟨h1, h2⟩
  have hnn := sq_mono h1 h2
  have hnn0 := Int.mul_nonneg h1 h1
  repeat' first
           | (with_reducible apply go_op)
           | (with_reducible apply go_next)
           | ((with_reducible (show evOp _ _ _ _ _ _)); first
             | (((with_reducible apply go_mv_int); rfl; rfl))
             | ((with_reducible apply go_as))
             | ((with_reducible (show evOp _ (.binOp _ _ _ _ _) _ _ _ _)) ; first | ((with_reducible apply go_cmp); rfl; rfl; rfl; rfl) | ((with_reducible apply go_add); rfl; rfl; rfl; omega) | ((with_reducible apply go_mul); rfl; rfl; rfl; omega)))
           | ((with_reducible (show evOps _ _ _ _ _ _)); first
             | (with_reducible apply go_nil))
           | ((with_reducible (show evG _ _ _ _ _)); first
             | (with_reducible apply go_seq)
             | (with_reducible apply go_region)
             | (((with_reducible apply go_cond); rfl) <;> (intro h; simp only [h]; try simp only [decide_eq_true_eq, decide_eq_false_iff_not, Bool.not_eq_true', Bool.not_eq_false', Bool.not_true, Bool.not_false] at h; try exact absurd trivial h))
             | (with_reducible apply go_skipc)
             | (with_reducible apply go_block)
             | (with_reducible apply go_exit))
           | (with_reducible apply go_kseq)
           | (with_reducible apply go_kblock)
           | (with_reducible apply go_kblock_exit)
           | (with_reducible apply go_kseq_exit)
  · have h3 : n < 3000000 := by
      rcases Int.lt_or_le n 3000000 with h | h
      · exact h
      · have := sq_mono (show (0 : Int) ≤ 3000000 by omega) h; omega
    exact ⟨n + 1, by omega, ⟨by omega, by omega⟩, entails_eq (nx := 0) (k := 0) (ns := []) (ks := [6, 5]) [] rfl (by simp) (by kernel_rfl)⟩
  refine go_while (fun n : Int => n.toNat) (fun n => ⟨[(6, .int .i64 n), (5, .int .i64 s)], [], 0, 36⟩) (fun n => (0 ≤ n ∧ n ≤ 16777216) ∧ s ≤ n * n) n
    (entails_eq (nx := 0) (k := 0) (ns := []) (ks := [6, 5]) [] rfl (by simp) (by kernel_rfl)) ⟨⟨h1, h2⟩, by omega⟩ ?_
  clear hnn hnn0 h1 h2
  rintro m ⟨⟨h1, h2⟩, h3⟩
  have hmm : 0 < m → 0 ≤ (m - 1) * (m - 1) ∧ (m - 1) * (m - 1) ≤ 281474976710656 := fun h => ⟨Int.mul_nonneg (by omega) (by omega), by have := sq_mono (show 0 ≤ m - 1 by omega) (show m - 1 ≤ 16777216 by omega); omega⟩
  by_cases h0 : 0 < m
  · have hm2 := hmm h0
    repeat' first
           | (with_reducible apply go_op)
           | (with_reducible apply go_next)
           | ((with_reducible (show evOp _ _ _ _ _ _)); first
             | ((with_reducible (show evOp _ (.move _) _ _ _ _)) ; first | ((with_reducible apply go_mv_int); rfl; rfl) | ((with_reducible apply go_mv_bool); rfl; rfl))
             | ((with_reducible apply go_as))
             | ((with_reducible (show evOp _ (.binOp _ _ _ _ _) _ _ _ _)) ; first | ((with_reducible apply go_cmp); rfl; rfl; rfl; rfl) | ((with_reducible apply go_sub); rfl; rfl; rfl; omega) | ((with_reducible apply go_mul); rfl; rfl; rfl; omega))
             | (((with_reducible apply go_pick); rfl; rfl; rfl)))
           | ((with_reducible (show evOps _ _ _ _ _ _)); first
             | (with_reducible apply go_nil)
             | ((with_reducible apply go_run); rfl; rfl)
             | ((with_reducible apply go_pass); rfl; rfl; rfl)
             | (((with_reducible apply go_guard); rfl) <;> (intro h; simp only [h, Bool.not_true, Bool.not_false]; (try with_reducible (refine ⟨rfl, ?_⟩)); try simp only [decide_eq_true_eq, decide_eq_false_iff_not, Bool.not_eq_true', Bool.not_eq_false', Bool.not_true, Bool.not_false] at h; try exact absurd trivial h)))
           | ((with_reducible (show evG _ _ _ _ _)); first
             | (with_reducible apply go_seq)
             | (with_reducible apply go_region)
             | ((with_reducible apply go_cond_f); rfl; rfl)
             | (((with_reducible apply go_cond); rfl) <;> (intro h; simp only [h]; try simp only [decide_eq_true_eq, decide_eq_false_iff_not, Bool.not_eq_true', Bool.not_eq_false', Bool.not_true, Bool.not_false] at h; try exact absurd trivial h))
             | (with_reducible apply go_ret)
             | (with_reducible apply go_skipc)
             | (with_reducible apply go_block)
             | (with_reducible apply go_exit))
           | (with_reducible apply go_kseq)
           | (with_reducible apply go_kblock)
           | (with_reducible apply go_kblock_exit)
           | (with_reducible apply go_kseq_exit)
           | ((with_reducible apply end_int); rfl)
    all_goals first
      | exact ⟨m - 1, by omega, ⟨⟨by omega, by omega⟩, by omega⟩, entails_eq (nx := 0) (k := 0) (ns := []) (ks := [6, 5]) [] rfl (by simp) (by kernel_rfl)⟩
      | exact (spanE_eq ⟨h1, h3, fun k hk1 hk2 => by have := sq_mono hk1 (show k ≤ m - 1 by omega); omega⟩).symm
      | (exfalso; omega)
      | trace_state
  · repeat' first
           | (with_reducible apply go_op)
           | (with_reducible apply go_next)
           | ((with_reducible (show evOp _ _ _ _ _ _)); first
             | ((with_reducible (show evOp _ (.move _) _ _ _ _)) ; first | ((with_reducible apply go_mv_int); rfl; rfl) | ((with_reducible apply go_mv_bool); rfl; rfl))
             | ((with_reducible apply go_as))
             | ((with_reducible (show evOp _ (.binOp _ _ _ _ _) _ _ _ _)) ; first | ((with_reducible apply go_cmp); rfl; rfl; rfl; rfl) | ((with_reducible apply go_sub); rfl; rfl; rfl; omega) | ((with_reducible apply go_mul); rfl; rfl; rfl; omega))
             | (((with_reducible apply go_pick); rfl; rfl; rfl)))
           | ((with_reducible (show evOps _ _ _ _ _ _)); first
             | (with_reducible apply go_nil)
             | ((with_reducible apply go_run); rfl; rfl)
             | ((with_reducible apply go_pass); rfl; rfl; rfl)
             | (((with_reducible apply go_guard); rfl) <;> (intro h; simp only [h, Bool.not_true, Bool.not_false]; (try with_reducible (refine ⟨rfl, ?_⟩)); try simp only [decide_eq_true_eq, decide_eq_false_iff_not, Bool.not_eq_true', Bool.not_eq_false', Bool.not_true, Bool.not_false] at h; try exact absurd trivial h)))
           | ((with_reducible (show evG _ _ _ _ _)); first
             | (with_reducible apply go_seq)
             | (with_reducible apply go_region)
             | ((with_reducible apply go_cond_f); rfl; rfl)
             | (((with_reducible apply go_cond); rfl) <;> (intro h; simp only [h]; try simp only [decide_eq_true_eq, decide_eq_false_iff_not, Bool.not_eq_true', Bool.not_eq_false', Bool.not_true, Bool.not_false] at h; try exact absurd trivial h))
             | (with_reducible apply go_ret)
             | (with_reducible apply go_skipc)
             | (with_reducible apply go_block)
             | (with_reducible apply go_exit))
           | (with_reducible apply go_kseq)
           | (with_reducible apply go_kblock)
           | (with_reducible apply go_kblock_exit)
           | (with_reducible apply go_kseq_exit)
           | ((with_reducible apply end_int); rfl)
    all_goals first
      | exact (spanE_eq ⟨h1, h3, fun k hk1 hk2 => by omega⟩).symm
      | (exfalso; omega)
      | trace_state
theorem c_rSpan (a b : Pt) (ha : ptOK a = true) (hb : ptOK b = true) : Contract Try.prog 64 [.agg (encPt a), .agg (encPt b)] (.ret (.int .i64 (spanE (sqE a b)))) := by
  have hbd := sqE_bd ha hb
  have hd := c_rsquare a b ha hb
  generalize sqE a b = s at *
  refine contract_of mix Try.func64 rfl rfl (by rw [Try.ntmps64]; exact Nat.le_of_ble_eq_true rfl) ?_; rw [Try.results64, Try.ntmps64]; simp only [argsE, Nat.reduceAdd]
  repeat' first
           | (with_reducible apply go_op)
           | (with_reducible apply go_next)
           | ((with_reducible (show evOp _ _ _ _ _ _)); first
             | (((with_reducible apply go_mv_int); rfl; rfl))
             | ((with_reducible apply go_as))
             | (((with_reducible apply go_bx_agg); rfl; rfl; (exact Nat.le_of_ble_eq_true rfl); rfl; rfl)))
           | ((with_reducible (show evOps _ _ _ _ _ _)); first
             | (with_reducible apply go_nil))
           | ((with_reducible (show evG _ _ _ _ _)); first
             | (with_reducible apply go_seq)
             | (with_reducible apply go_region)
             | (with_reducible apply go_block))
           | (with_reducible apply go_kseq)
  refine go_while (fun x : Int × Int => (x.2 - x.1).toNat) (fun x => ⟨[(5, .int .i64 x.1), (6, .int .i64 x.2), (2, .op 0 0 0), (3, .op 1 0 0)], [(0, ⟨2, true, [encPt a]⟩), (1, ⟨2, true, [encPt b]⟩)], 32, 26⟩) (fun x => (0 ≤ x.1 ∧ x.1 ≤ x.2 ∧ x.2 ≤ 4000000) ∧ s ≤ x.2 * x.2 ∧ ∀ m, 0 ≤ m → m < x.1 → m * m < s) (0, 4000000)
    (entails_eq (nx := 32) (k := 0) (ns := []) (ks := [5, 6, 2, 3]) [(0, 0), (32, 1)] rfl (by simp) (by kernel_rfl)) ⟨⟨by omega, by omega, by omega⟩, by omega, fun m h1 h2 => by omega⟩ ?_
  rintro ⟨lo, hi⟩ ⟨⟨h1, h2, h3⟩, h4, h5⟩
  simp only at h1 h2 h3 h4 h5
  have hmid : 0 ≤ (lo + hi) / 2 ∧ (lo + hi) / 2 ≤ 4000000 := by omega
  have hmm := sq_mono hmid.1 hmid.2
  have hmm0 := Int.mul_nonneg hmid.1 hmid.1
  repeat' first
           | (with_reducible apply go_op)
           | (with_reducible apply go_next)
           | ((with_reducible (show evOp _ _ _ _ _ _)); first
             | (((with_reducible apply go_mv_int); rfl; rfl))
             | ((with_reducible apply go_as))
             | (((with_reducible apply go_ld_agg); rfl; rfl; rfl; rfl))
             | ((with_reducible (show evOp _ (.binOp _ _ _ _ _) _ _ _ _)) ; first | ((with_reducible apply go_cmp); rfl; rfl; rfl; rfl) | ((with_reducible apply go_add); rfl; rfl; rfl; omega) | ((with_reducible apply go_mul); rfl; rfl; rfl; omega) | ((with_reducible apply go_quo_pos); rfl; rfl; rfl; omega))
             | (((with_reducible apply go_fn_int); rfl; (exact hd); rfl)))
           | ((with_reducible (show evOps _ _ _ _ _ _)); first
             | (with_reducible apply go_nil))
           | ((with_reducible (show evG _ _ _ _ _)); first
             | (with_reducible apply go_seq)
             | (with_reducible apply go_region)
             | (((with_reducible apply go_cond); rfl) <;> (intro h; simp only [h]; try simp only [decide_eq_true_eq, decide_eq_false_iff_not, Bool.not_eq_true', Bool.not_eq_false', Bool.not_true, Bool.not_false] at h; try exact absurd trivial h))
             | (with_reducible apply go_ret)
             | (with_reducible apply go_skipc)
             | (with_reducible apply go_block)
             | (with_reducible apply go_exit))
           | (with_reducible apply go_kseq)
           | (with_reducible apply go_kblock)
           | (with_reducible apply go_kblock_exit)
           | (with_reducible apply go_kseq_exit)
           | ((with_reducible apply end_int); rfl)
  all_goals first
    | exact ⟨(lo, (lo + hi) / 2), by simp only; omega, ⟨⟨by simp only; omega, by simp only; omega, by simp only; omega⟩, by simp only; omega, h5⟩, entails_eq (nx := 32) (k := 0) (ns := []) (ks := [5, 6, 2, 3]) [(0, 0), (1, 1)] rfl (by simp) (by kernel_rfl)⟩
    | exact ⟨((lo + hi) / 2 + 1, hi), by simp only; omega, ⟨⟨by simp only; omega, by simp only; omega, by simp only; omega⟩, h4, fun m hm1 hm2 => by have := sq_mono hm1 (show m ≤ (lo + hi) / 2 by simp only at hm2; omega); omega⟩, entails_eq (nx := 32) (k := 0) (ns := []) (ks := [5, 6, 2, 3]) [(0, 0), (1, 1)] rfl (by simp) (by kernel_rfl)⟩
    | (have he : lo = hi := by omega
       subst he
       exact (spanE_eq ⟨h1, h4, h5⟩).symm)
    | (exfalso; omega)
    | trace_state
noncomputable def spanX (a b : Pt) : Int := if (ptOK a && ptOK b) = true then spanE (sqE a b) else 0
theorem c_Span (a b : Pt) : Contract Try.prog 61 [.agg (encPt a), .agg (encPt b)] (.ret (.int .i64 (spanX a b))) := by
  have h1 := c_outside_2 a b
  unfold spanX
  cases hok : ptOK a && ptOK b
  · rw [hok] at h1
    refine contract_of mix Try.func61 rfl rfl (by rw [Try.ntmps61]; exact Nat.le_of_ble_eq_true rfl) ?_; rw [Try.results61, Try.ntmps61]; simp only [argsE, Nat.reduceAdd]
    repeat' first
           | (with_reducible apply go_op)
           | (with_reducible apply go_next)
           | ((with_reducible (show evOp _ _ _ _ _ _)); first
             | (((with_reducible apply go_mv_int); rfl; rfl))
             | ((with_reducible apply go_as))
             | (((with_reducible apply go_ld_agg); rfl; rfl; rfl; rfl))
             | (((with_reducible apply go_fn_bool); (exact purL_os rfl (by simp) rfl); (exact h1); rfl))
             | (((with_reducible apply go_bx_agg); rfl; rfl; (exact Nat.le_of_ble_eq_true rfl); rfl; rfl))
             | (((with_reducible apply go_bs2_agg); rfl; rfl; rfl; rfl; rfl; rfl; rfl; rfl)))
           | ((with_reducible (show evOps _ _ _ _ _ _)); first
             | (with_reducible apply go_nil))
           | ((with_reducible (show evG _ _ _ _ _)); first
             | (with_reducible apply go_seq)
             | (with_reducible apply go_region)
             | ((with_reducible apply go_cond_t); rfl; rfl)
             | (with_reducible apply go_ret))
           | (with_reducible apply go_kseq)
           | (with_reducible apply go_kseq_ret)
           | ((with_reducible apply end_int); rfl)
    all_goals rfl
  · rw [hok] at h1
    obtain ⟨ha, hb⟩ := ok2 hok
    refine contract_of mix Try.func61 rfl rfl (by rw [Try.ntmps61]; exact Nat.le_of_ble_eq_true rfl) ?_; rw [Try.results61, Try.ntmps61]; simp only [argsE, Nat.reduceAdd]
    repeat' first
           | (with_reducible apply go_op)
           | (with_reducible apply go_next)
           | ((with_reducible (show evOp _ _ _ _ _ _)); first
             | (((with_reducible apply go_mv_int); rfl; rfl))
             | ((with_reducible apply go_as))
             | (((with_reducible apply go_ld_agg); rfl; rfl; rfl; rfl))
             | ((with_reducible (show evOp _ (.call _) _ _ _ _)) ; first | ((with_reducible apply go_fn_bool); (exact purL_os rfl (by simp) rfl); (exact h1); rfl) | ((with_reducible apply go_fn_int); rfl; (exact c_span a b ha hb); rfl))
             | (((with_reducible apply go_bx_agg); rfl; rfl; (exact Nat.le_of_ble_eq_true rfl); rfl; rfl))
             | (((with_reducible apply go_bs2_agg); rfl; rfl; rfl; rfl; rfl; rfl; rfl; rfl)))
           | ((with_reducible (show evOps _ _ _ _ _ _)); first
             | (with_reducible apply go_nil))
           | ((with_reducible (show evG _ _ _ _ _)); first
             | (with_reducible apply go_seq)
             | (with_reducible apply go_region)
             | ((with_reducible apply go_cond_f); rfl; rfl)
             | (with_reducible apply go_ret)
             | (with_reducible apply go_skipc))
           | (with_reducible apply go_kseq)
           | ((with_reducible apply end_int); rfl)
    all_goals rfl
end Go.Pv.Geo

open Go Go.Proofs Go.Pv
set_option maxHeartbeats 4000000
set_option maxRecDepth 100000
set_option linter.unusedSimpArgs false
set_option linter.unusedVariables false
namespace Go.Pv.Geo
def eqP (a b : Pt) : Bool := decide (a.x = b.x) && (decide (a.y = b.y) && true)
theorem eqP_iff {a b : Pt} : eqP a b = true ↔ a = b := by cases a; cases b; simp [eqP]
theorem sq_pos {a b : Pt} (h : eqP a b = false) : 0 < sqE a b := by
  have hne : a ≠ b := fun e => by rw [eqP_iff.2 e] at h; cases h
  have s1 : ∀ u : Int, 0 ≤ u * u := fun u => by rcases Int.le_total 0 u with h | h; exact Int.mul_nonneg h h; exact Int.mul_nonneg_of_nonpos_of_nonpos h h
  have s2 : ∀ u : Int, u ≠ 0 → 0 < u * u := fun u hu => by
    rcases Int.lt_or_gt_of_ne hu with h | h
    · exact Int.mul_pos_of_neg_of_neg h h
    · exact Int.mul_pos h h
  have h1 := s1 (b.x - a.x)
  have h2 := s1 (b.y - a.y)
  simp only [sqE, dotE]
  by_cases hx : b.x - a.x = 0
  · have hy : b.y - a.y ≠ 0 := fun hy => hne (by cases a; cases b; simp at hx hy ⊢; omega)
    have := s2 _ hy
    omega
  · have := s2 _ hx
    omega
theorem span_pos {s : Int} (h : 0 < s) (h' : s ≤ 8000000000000) : 0 < spanE s := by
  have h1 := (span_is h').1
  rcases Int.lt_or_eq_of_le h1.1 with hp | he
  · exact hp
  · have := h1.2.1
    rw [← he] at this
    omega
def lineE (a b p : Pt) : Int := if (ptOK a && ptOK b && ptOK p) = false then 2 else if eqP a b = true then 11 else 0
theorem c_lineErr (a b p : Pt) : Contract Try.prog 102 [.agg (encPt a), .agg (encPt b), .agg (encPt p)] (.ret (.int .i64 (lineE a b p))) := by
  have h1 := c_outside_3 a b p
  cases hok : ptOK a && ptOK b && ptOK p
  · rw [hok] at h1
    have e : lineE a b p = 2 := if_pos hok
    rw [e]
    refine contract_of mix Try.func102 rfl rfl (by rw [Try.ntmps102]; exact Nat.le_of_ble_eq_true rfl) ?_; rw [Try.results102, Try.ntmps102]; simp only [argsE, Nat.reduceAdd]
    repeat' first
           | (with_reducible apply go_op)
           | (with_reducible apply go_next)
           | ((with_reducible (show evOp _ _ _ _ _ _)); first
             | ((with_reducible (show evOp _ (.move _) _ _ _ _)) ; first | ((with_reducible apply go_mv_int); rfl; rfl) | ((with_reducible apply go_mv_bool); rfl; rfl))
             | ((with_reducible apply go_as))
             | (((with_reducible apply go_ld_agg); rfl; rfl; rfl; rfl))
             | (((with_reducible apply go_fn_bool); (exact purL_os rfl (by simp) rfl); (exact h1); rfl))
             | (((with_reducible apply go_bx_agg); rfl; rfl; (exact Nat.le_of_ble_eq_true rfl); rfl; rfl))
             | (((with_reducible apply go_bs3_agg); rfl; rfl; rfl; rfl; rfl; rfl; rfl; rfl; rfl; rfl)))
           | ((with_reducible (show evOps _ _ _ _ _ _)); first
             | (with_reducible apply go_nil))
           | ((with_reducible (show evG _ _ _ _ _)); first
             | (with_reducible apply go_seq)
             | (with_reducible apply go_region)
             | ((with_reducible apply go_cond_t); rfl; rfl)
             | (with_reducible apply go_ret)
             | (with_reducible apply go_block))
           | (with_reducible apply go_kseq)
           | (with_reducible apply go_kseq_ret)
           | (with_reducible apply go_kblock_ret)
           | ((with_reducible apply end_int); rfl)
           | (with_reducible rfl)
    all_goals rfl
  · rw [hok] at h1
    have e : lineE a b p = if eqP a b = true then 11 else 0 := if_neg (by rw [hok]; simp)
    rw [e]
    refine contract_of mix Try.func102 rfl rfl (by rw [Try.ntmps102]; exact Nat.le_of_ble_eq_true rfl) ?_; rw [Try.results102, Try.ntmps102]; simp only [argsE, Nat.reduceAdd]
    repeat' first
           | (with_reducible apply go_op)
           | (with_reducible apply go_next)
           | ((with_reducible (show evOp _ _ _ _ _ _)); first
             | ((with_reducible (show evOp _ (.move _) _ _ _ _)) ; first | ((with_reducible apply go_mv_int); rfl; rfl) | ((with_reducible apply go_mv_bool); rfl; rfl))
             | ((with_reducible apply go_as))
             | (((with_reducible apply go_ld_agg); rfl; rfl; rfl; rfl))
             | (((with_reducible apply go_eql_agg); rfl; rfl; rfl; rfl))
             | (((with_reducible apply go_fn_bool); (exact purL_os rfl (by simp) rfl); (exact h1); rfl))
             | (((with_reducible apply go_bx_agg); rfl; rfl; (exact Nat.le_of_ble_eq_true rfl); rfl; rfl))
             | (((with_reducible apply go_bs3_agg); rfl; rfl; rfl; rfl; rfl; rfl; rfl; rfl; rfl; rfl)))
           | ((with_reducible (show evOps _ _ _ _ _ _)); first
             | (with_reducible apply go_nil))
           | ((with_reducible (show evG _ _ _ _ _)); first
             | (with_reducible apply go_seq)
             | (with_reducible apply go_region)
             | ((with_reducible apply go_cond_f); rfl; rfl)
             | (((with_reducible apply go_cond); rfl) <;> (intro h; simp only [h]; try simp only [decide_eq_true_eq, decide_eq_false_iff_not, Bool.not_eq_true', Bool.not_eq_false', Bool.not_true, Bool.not_false] at h; try exact absurd trivial h))
             | (with_reducible apply go_ret)
             | (with_reducible apply go_skipc)
             | (with_reducible apply go_block))
           | (with_reducible apply go_kseq)
           | (with_reducible apply go_kseq_ret)
           | (with_reducible apply go_kblock)
           | (with_reducible apply go_kblock_ret)
           | ((with_reducible apply end_int); rfl)
    · rw [if_pos (show eqP a b = true by assumption)]
    · rw [if_neg (by rw [show eqP a b = false by assumption]; simp)]
noncomputable def offE (a b p : Pt) : Int := absE (crossE a b p) / spanE (sqE a b)
noncomputable def alongE (a b p : Pt) : Int := dotE a b p / spanE (sqE a b)
theorem mx_abs (n : Int) : max n (0 - n) = absE n := by unfold absE; split <;> omega
theorem absE_nn (n : Int) : 0 ≤ absE n := by unfold absE; split <;> omega
theorem absE_le {n B : Int} (h : -B ≤ n ∧ n ≤ B) : absE n ≤ B := by unfold absE; split <;> omega
theorem c_offset (a b p : Pt) (ha : ptOK a = true) (hb : ptOK b = true) (hp : ptOK p = true) (hne : eqP a b = false) : Contract Try.prog 103 [.agg (encPt a), .agg (encPt b), .agg (encPt p)] (.ret (.int .i64 (offE a b p))) := by
  have hx := c_cross a b p ha hb hp
  have hs := c_span a b ha hb
  have h1 := crossE_bd ha hb hp
  have h2 := span_pos (sq_pos hne) (sqE_bd ha hb).2
  have h3 := (span_is (sqE_bd ha hb).2).2
  unfold offE
  rw [← mx_abs]
  refine contract_of mix Try.func103 rfl rfl (by rw [Try.ntmps103]; exact Nat.le_of_ble_eq_true rfl) ?_; rw [Try.results103, Try.ntmps103]; simp only [argsE, Nat.reduceAdd]
  repeat' first
           | (with_reducible apply go_op)
           | (with_reducible apply go_next)
           | ((with_reducible (show evOp _ _ _ _ _ _)); first
             | (((with_reducible apply go_mv_int); rfl; rfl))
             | ((with_reducible apply go_as))
             | (((with_reducible apply go_ld_agg); rfl; rfl; rfl; rfl))
             | (((with_reducible apply go_quo_pos); rfl; rfl; rfl; omega))
             | ((with_reducible (show evOp _ (.call _) _ _ _ _)) ; first | ((with_reducible apply go_max); rfl; rfl; rfl) | ((with_reducible apply go_fn_int); rfl; (exact hx); rfl) | ((with_reducible apply go_fn_int); rfl; (exact hs); rfl))
             | (((with_reducible apply go_neg); rfl; rfl; omega))
             | (((with_reducible apply go_bx_agg); rfl; rfl; (exact Nat.le_of_ble_eq_true rfl); rfl; rfl)))
           | ((with_reducible (show evOps _ _ _ _ _ _)); first
             | (with_reducible apply go_nil))
           | ((with_reducible (show evG _ _ _ _ _)); first
             | (with_reducible apply go_seq)
             | (with_reducible apply go_region)
             | (with_reducible apply go_ret))
           | (with_reducible apply go_kseq)
           | ((with_reducible apply end_int); rfl)
           | (with_reducible rfl)
  all_goals trace_state
theorem c_rOffset (a b p : Pt) (ha : ptOK a = true) (hb : ptOK b = true) (hp : ptOK p = true) (hne : eqP a b = false) : Contract Try.prog 67 [.agg (encPt a), .agg (encPt b), .agg (encPt p)] (.ret (.int .i64 (offE a b p))) := by
  have hx := c_rcross a b p ha hb hp
  have hs := c_rSpan a b ha hb
  have h1 := crossE_bd ha hb hp
  have hab := c_abs (crossE a b p) (by omega) (by omega)
  have h2 := span_pos (sq_pos hne) (sqE_bd ha hb).2
  have h3 := (span_is (sqE_bd ha hb).2).2
  have h4 := absE_nn (crossE a b p)
  have h5 := absE_le h1
  unfold offE
  refine contract_of mix Try.func67 rfl rfl (by rw [Try.ntmps67]; exact Nat.le_of_ble_eq_true rfl) ?_; rw [Try.results67, Try.ntmps67]; simp only [argsE, Nat.reduceAdd]
  repeat' first
           | (with_reducible apply go_op)
           | (with_reducible apply go_next)
           | ((with_reducible (show evOp _ _ _ _ _ _)); first
             | (((with_reducible apply go_mv_int); rfl; rfl))
             | ((with_reducible apply go_as))
             | (((with_reducible apply go_ld_agg); rfl; rfl; rfl; rfl))
             | (((with_reducible apply go_quo_pos); rfl; rfl; rfl; omega))
             | ((with_reducible (show evOp _ (.call _) _ _ _ _)) ; first | ((with_reducible apply go_fn_int); rfl; (exact hx); rfl) | ((with_reducible apply go_fn_int); rfl; (exact hs); rfl) | ((with_reducible apply go_fn_int); rfl; (exact hab); rfl))
             | (((with_reducible apply go_bx_agg); rfl; rfl; (exact Nat.le_of_ble_eq_true rfl); rfl; rfl)))
           | ((with_reducible (show evOps _ _ _ _ _ _)); first
             | (with_reducible apply go_nil)
             | ((with_reducible apply go_pre); rfl)
             | (with_reducible apply go_pre_nil)
             | ((with_reducible apply go_suf); rfl)
             | (with_reducible apply go_suf_nil))
           | ((with_reducible (show evG _ _ _ _ _)); first
             | (with_reducible apply go_seq)
             | (with_reducible apply go_region)
             | ((with_reducible apply go_order); kernel_rfl; rfl)
             | (with_reducible apply go_ret))
           | (with_reducible apply go_kseq)
           | (with_reducible apply go_ksuf)
           | ((with_reducible apply end_int); rfl)
           | (with_reducible rfl)
  all_goals trace_state
theorem c_mod (n m : Int) (hm : 0 < m) (hm' : m ≤ 1000000000000) (hn : -1000000000000000 ≤ n ∧ n ≤ 1000000000000000) : Contract Try.prog 53 [.int .i64 n, .int .i64 m] (.ret (.int .i64 (n % m))) := by
  have e1 := Int.emod_nonneg n (show m ≠ 0 by omega)
  have e2 := Int.emod_lt_of_pos n hm
  have e3 : n.tmod m = if 0 ≤ n ∨ m ∣ n then n % m else n % m - m := by
    rw [Int.tmod_eq_emod]
    split <;> rename_i h
    · omega
    · rw [Int.natAbs_of_nonneg (by omega)]
  refine contract_of mix Try.func53 rfl rfl (by rw [Try.ntmps53]; exact Nat.le_of_ble_eq_true rfl) ?_; rw [Try.results53, Try.ntmps53]; simp only [argsE, Nat.reduceAdd]
  repeat' first
           | (with_reducible apply go_op)
           | (with_reducible apply go_next)
           | ((with_reducible (show evOp _ _ _ _ _ _)); first
             | (((with_reducible apply go_mv_int); rfl; rfl))
             | ((with_reducible apply go_as))
             | ((with_reducible (show evOp _ (.binOp _ _ _ _ _) _ _ _ _)) ; first | ((with_reducible apply go_cmp); rfl; rfl; rfl; rfl) | ((with_reducible apply go_add); rfl; rfl; rfl; omega) | ((with_reducible apply go_rem); rfl; rfl; rfl; omega)))
           | ((with_reducible (show evOps _ _ _ _ _ _)); first
             | (with_reducible apply go_nil))
           | ((with_reducible (show evG _ _ _ _ _)); first
             | (with_reducible apply go_seq)
             | (with_reducible apply go_region)
             | (((with_reducible apply go_cond); rfl) <;> (intro h; simp only [h]; try simp only [decide_eq_true_eq, decide_eq_false_iff_not, Bool.not_eq_true', Bool.not_eq_false', Bool.not_true, Bool.not_false] at h; try exact absurd trivial h))
             | (with_reducible apply go_ret)
             | (with_reducible apply go_skipc))
           | (with_reducible apply go_kseq)
           | ((with_reducible apply end_int); rfl)
  · split at e3 <;> omega
  · split at e3 <;> omega
theorem c_floor (n m : Int) (hm : 0 < m) (hm' : m ≤ 1000000000000) (hn : -1000000000000000 ≤ n ∧ n ≤ 1000000000000000) : Contract Try.prog 104 [.int .i64 n, .int .i64 m] (.ret (.int .i64 (n / m))) := by
  have hd := c_mod n m hm hm' hn
  have e1 := Int.emod_nonneg n (show m ≠ 0 by omega)
  have e2 := Int.emod_lt_of_pos n hm
  have e3 : n - n % m = m * (n / m) := by have := Int.mul_ediv_add_emod n m; omega
  refine contract_of mix Try.func104 rfl rfl (by rw [Try.ntmps104]; exact Nat.le_of_ble_eq_true rfl) ?_; rw [Try.results104, Try.ntmps104]; simp only [argsE, Nat.reduceAdd]
  repeat' first
           | (with_reducible apply go_op)
           | (with_reducible apply go_next)
           | ((with_reducible (show evOp _ _ _ _ _ _)); first
             | (((with_reducible apply go_mv_int); rfl; rfl))
             | ((with_reducible apply go_as))
             | ((with_reducible (show evOp _ (.binOp _ _ _ _ _) _ _ _ _)) ; first | ((with_reducible apply go_sub); rfl; rfl; rfl; omega) | ((with_reducible apply go_quo_any); rfl; rfl; rfl; omega; omega))
             | (((with_reducible apply go_fn_int); rfl; (exact hd); rfl)))
           | ((with_reducible (show evOps _ _ _ _ _ _)); first
             | (with_reducible apply go_nil))
           | ((with_reducible (show evG _ _ _ _ _)); first
             | (with_reducible apply go_seq)
             | (with_reducible apply go_region)
             | (with_reducible apply go_ret))
           | (with_reducible apply go_kseq)
           | ((with_reducible apply end_int); rfl)
  rw [e3, Int.mul_tdiv_cancel_left _ (by omega)]
theorem c_rAlong (a b p : Pt) (ha : ptOK a = true) (hb : ptOK b = true) (hp : ptOK p = true) (hne : eqP a b = false) : Contract Try.prog 68 [.agg (encPt a), .agg (encPt b), .agg (encPt p)] (.ret (.int .i64 (alongE a b p))) := by
  have hx := c_rdot a b p ha hb hp
  have hs := c_rSpan a b ha hb
  have h1 := dotE_bd ha hb hp
  have h2 := span_pos (sq_pos hne) (sqE_bd ha hb).2
  have h3 := (span_is (sqE_bd ha hb).2).2
  have hf := c_floor (dotE a b p) (spanE (sqE a b)) h2 (by omega) (by omega)
  refine contract_of mix Try.func68 rfl rfl (by rw [Try.ntmps68]; exact Nat.le_of_ble_eq_true rfl) ?_; rw [Try.results68, Try.ntmps68]; simp only [argsE, Nat.reduceAdd]
  repeat' first
           | (with_reducible apply go_op)
           | (with_reducible apply go_next)
           | ((with_reducible (show evOp _ _ _ _ _ _)); first
             | (((with_reducible apply go_mv_int); rfl; rfl))
             | ((with_reducible apply go_as))
             | (((with_reducible apply go_ld_agg); rfl; rfl; rfl; rfl))
             | ((with_reducible (show evOp _ (.call _) _ _ _ _)) ; first | ((with_reducible apply go_fn_int); rfl; (exact hx); rfl) | ((with_reducible apply go_fn_int); rfl; (exact hs); rfl) | ((with_reducible apply go_fn_int); rfl; (exact hf); rfl))
             | (((with_reducible apply go_bx_agg); rfl; rfl; (exact Nat.le_of_ble_eq_true rfl); rfl; rfl)))
           | ((with_reducible (show evOps _ _ _ _ _ _)); first
             | (with_reducible apply go_nil)
             | ((with_reducible apply go_pre); rfl)
             | (with_reducible apply go_pre_nil)
             | ((with_reducible apply go_suf); rfl)
             | (with_reducible apply go_suf_nil))
           | ((with_reducible (show evG _ _ _ _ _)); first
             | (with_reducible apply go_seq)
             | (with_reducible apply go_region)
             | ((with_reducible apply go_order); kernel_rfl; rfl)
             | (with_reducible apply go_ret))
           | (with_reducible apply go_kseq)
           | (with_reducible apply go_ksuf)
           | ((with_reducible apply end_int); rfl)
  all_goals rfl
theorem along_lem {d s : Int} (hs : 0 < s) : (d.tdiv s * s > d → d.tdiv s - 1 = d / s) ∧ (¬ d.tdiv s * s > d → d.tdiv s = d / s) := by
  have e := Int.tdiv_eq_ediv (a := d) (b := s)
  rw [Int.sign_eq_one_of_pos hs] at e
  have e1 := Int.mul_ediv_add_emod d s
  have e2 := Int.emod_nonneg d (show s ≠ 0 by omega)
  have e3 := Int.emod_lt_of_pos d hs
  rw [Int.mul_comm] at e1
  generalize hq : d / s = q at *
  split at e
  · rename_i h
    have e4 : d.tdiv s = q := by omega
    rw [e4]
    exact ⟨fun h => by omega, fun _ => rfl⟩
  · rename_i h
    have e4 : d.tdiv s = q + 1 := by omega
    rw [e4, Int.add_mul, Int.one_mul]
    have hz : d % s ≠ 0 := fun hz => h (.inr (Int.dvd_of_emod_eq_zero hz))
    exact ⟨fun _ => by omega, fun h => by omega⟩
theorem tdiv_bd {d s B : Int} (hs : 0 < s) (h : -B ≤ d ∧ d ≤ B) : -B - 1 ≤ d.tdiv s ∧ d.tdiv s ≤ B + 1 ∧ -B ≤ d.tdiv s * s ∧ d.tdiv s * s ≤ B := by
  have hd : (d.tdiv s).natAbs ≤ d.natAbs := Int.natAbs_tdiv_le_natAbs d s
  have hm : (d.tdiv s * s).natAbs ≤ d.natAbs := by
    rw [Int.natAbs_mul, Int.natAbs_tdiv]
    exact Nat.div_mul_le_self _ _
  omega
noncomputable def offX (a b p : Pt) : Int := if lineE a b p = 0 then offE a b p else 0
noncomputable def alongX (a b p : Pt) : Int := if lineE a b p = 0 then alongE a b p else 0
theorem line_ok {a b p : Pt} (h : lineE a b p = 0) : ptOK a = true ∧ ptOK b = true ∧ ptOK p = true ∧ eqP a b = false := by
  unfold lineE at h
  (repeat' split at h) <;> first | (cases h; done) | skip
  rename_i h1 h2
  obtain ⟨x, y, z⟩ := ok3 ((Bool.eq_false_or_eq_true _).resolve_right h1)
  exact ⟨x, y, z, by simpa using h2⟩
theorem c_Offset (a b p : Pt) : Contract Try.prog 65 [.agg (encPt a), .agg (encPt b), .agg (encPt p)] (.ret (.tup [.int .i64 (offX a b p), .int .i64 (lineE a b p)])) := by
  have hl := c_lineErr a b p
  unfold offX
  by_cases hz : lineE a b p = 0
  · obtain ⟨ha, hb, hp, hne⟩ := line_ok hz
    have ho := c_offset a b p ha hb hp hne
    rw [if_pos hz]
    rw [hz] at hl ⊢
    refine contract_of mix Try.func65 rfl rfl (by rw [Try.ntmps65]; exact Nat.le_of_ble_eq_true rfl) ?_; rw [Try.results65, Try.ntmps65]; simp only [argsE, Nat.reduceAdd]
    repeat' first
           | (with_reducible apply go_op)
           | (with_reducible apply go_next)
           | ((with_reducible (show evOp _ _ _ _ _ _)); first
             | (((with_reducible apply go_mv_int); rfl; rfl))
             | ((with_reducible apply go_as))
             | (((with_reducible apply go_ld_agg); rfl; rfl; rfl; rfl))
             | (((with_reducible apply go_cmp); rfl; rfl; rfl; rfl))
             | ((with_reducible (show evOp _ (.call _) _ _ _ _)) ; first | ((with_reducible apply go_fn_int); rfl; (exact hl); rfl) | ((with_reducible apply go_fn_int); rfl; (exact ho); rfl))
             | (((with_reducible apply go_bx_agg); rfl; rfl; (exact Nat.le_of_ble_eq_true rfl); rfl; rfl)))
           | ((with_reducible (show evOps _ _ _ _ _ _)); first
             | (with_reducible apply go_nil))
           | ((with_reducible (show evG _ _ _ _ _)); first
             | (with_reducible apply go_seq)
             | (with_reducible apply go_region)
             | ((with_reducible apply go_cond_f); rfl; rfl)
             | (with_reducible apply go_ret)
             | (with_reducible apply go_skipc))
           | (with_reducible apply go_kseq)
           | ((with_reducible apply end_t2); rfl; rfl; rfl; rfl)
    all_goals first | rfl | (exfalso; omega)
  · rw [if_neg hz]
    refine contract_of mix Try.func65 rfl rfl (by rw [Try.ntmps65]; exact Nat.le_of_ble_eq_true rfl) ?_; rw [Try.results65, Try.ntmps65]; simp only [argsE, Nat.reduceAdd]
    repeat' first
           | (with_reducible apply go_op)
           | (with_reducible apply go_next)
           | ((with_reducible (show evOp _ _ _ _ _ _)); first
             | (((with_reducible apply go_mv_int); rfl; rfl))
             | ((with_reducible apply go_as))
             | (((with_reducible apply go_ld_agg); rfl; rfl; rfl; rfl))
             | (((with_reducible apply go_cmp); rfl; rfl; rfl; rfl))
             | (((with_reducible apply go_fn_int); rfl; (exact hl); rfl))
             | (((with_reducible apply go_bx_agg); rfl; rfl; (exact Nat.le_of_ble_eq_true rfl); rfl; rfl)))
           | ((with_reducible (show evOps _ _ _ _ _ _)); first
             | (with_reducible apply go_nil))
           | ((with_reducible (show evG _ _ _ _ _)); first
             | (with_reducible apply go_seq)
             | (with_reducible apply go_region)
             | (((with_reducible apply go_cond); rfl) <;> (intro h; simp only [h]; try simp only [decide_eq_true_eq, decide_eq_false_iff_not, Bool.not_eq_true', Bool.not_eq_false', Bool.not_true, Bool.not_false] at h; try exact absurd trivial h))
             | (with_reducible apply go_ret)
             | (with_reducible apply go_skipc))
           | (with_reducible apply go_kseq)
           | (with_reducible apply go_kseq_ret)
           | ((with_reducible apply end_t2); rfl; rfl; rfl; rfl)
    all_goals first | rfl | (exfalso; omega)
theorem c_Along (a b p : Pt) : Contract Try.prog 66 [.agg (encPt a), .agg (encPt b), .agg (encPt p)] (.ret (.tup [.int .i64 (alongX a b p), .int .i64 (lineE a b p)])) := by
  have hl := c_lineErr a b p
  unfold alongX
  by_cases hz : lineE a b p = 0
  · obtain ⟨ha, hb, hp, hne⟩ := line_ok hz
    have hx := c_dot a b p ha hb hp
    have hs := c_span a b ha hb
    have h1 := dotE_bd ha hb hp
    have h2 := span_pos (sq_pos hne) (sqE_bd ha hb).2
    have h3 := (span_is (sqE_bd ha hb).2).2
    have ht := tdiv_bd h2 h1
    have hlem := along_lem (d := dotE a b p) h2
    rw [if_pos hz]
    rw [hz] at hl ⊢
    unfold alongE
    refine contract_of mix Try.func66 rfl rfl (by rw [Try.ntmps66]; exact Nat.le_of_ble_eq_true rfl) ?_; rw [Try.results66, Try.ntmps66]; simp only [argsE, Nat.reduceAdd]
    repeat' first
           | (with_reducible apply go_op)
           | (with_reducible apply go_next)
           | ((with_reducible (show evOp _ _ _ _ _ _)); first
             | (((with_reducible apply go_mv_int); rfl; rfl))
             | ((with_reducible apply go_as))
             | (((with_reducible apply go_ld_agg); rfl; rfl; rfl; rfl))
             | ((with_reducible (show evOp _ (.binOp _ _ _ _ _) _ _ _ _)) ; first | ((with_reducible apply go_cmp); rfl; rfl; rfl; rfl) | ((with_reducible apply go_sub); rfl; rfl; rfl; omega) | ((with_reducible apply go_mul); rfl; rfl; rfl; omega) | ((with_reducible apply go_quo_any); rfl; rfl; rfl; omega; omega))
             | ((with_reducible (show evOp _ (.call _) _ _ _ _)) ; first | ((with_reducible apply go_fn_int); rfl; (exact hl); rfl) | ((with_reducible apply go_fn_int); rfl; (exact hx); rfl) | ((with_reducible apply go_fn_int); rfl; (exact hs); rfl))
             | (((with_reducible apply go_bx_agg); rfl; rfl; (exact Nat.le_of_ble_eq_true rfl); rfl; rfl)))
           | ((with_reducible (show evOps _ _ _ _ _ _)); first
             | (with_reducible apply go_nil)
             | ((with_reducible apply go_pre); rfl)
             | (with_reducible apply go_pre_nil)
             | ((with_reducible apply go_suf); rfl)
             | (with_reducible apply go_suf_nil))
           | ((with_reducible (show evG _ _ _ _ _)); first
             | (with_reducible apply go_seq)
             | (with_reducible apply go_region)
             | ((with_reducible apply go_cond_f); rfl; rfl)
             | (((with_reducible apply go_cond); rfl) <;> (intro h; simp only [h]; try simp only [decide_eq_true_eq, decide_eq_false_iff_not, Bool.not_eq_true', Bool.not_eq_false', Bool.not_true, Bool.not_false] at h; try exact absurd trivial h))
             | ((with_reducible apply go_order); kernel_rfl; rfl)
             | (with_reducible apply go_ret)
             | (with_reducible apply go_skipc))
           | (with_reducible apply go_kseq)
           | (with_reducible apply go_ksuf)
           | ((with_reducible apply end_t2); rfl; rfl; rfl; rfl)
    all_goals first
      | (exfalso; omega)
      | (rw [hlem.1 (by assumption)]; rfl)
      | (rw [← hlem.1 (by omega)]; rfl)
      | (rw [← hlem.2 (by assumption)]; rfl)
      | trace_state
  · rw [if_neg hz]
    refine contract_of mix Try.func66 rfl rfl (by rw [Try.ntmps66]; exact Nat.le_of_ble_eq_true rfl) ?_; rw [Try.results66, Try.ntmps66]; simp only [argsE, Nat.reduceAdd]
    repeat' first
           | (with_reducible apply go_op)
           | (with_reducible apply go_next)
           | ((with_reducible (show evOp _ _ _ _ _ _)); first
             | (((with_reducible apply go_mv_int); rfl; rfl))
             | ((with_reducible apply go_as))
             | (((with_reducible apply go_ld_agg); rfl; rfl; rfl; rfl))
             | (((with_reducible apply go_cmp); rfl; rfl; rfl; rfl))
             | (((with_reducible apply go_fn_int); rfl; (exact hl); rfl))
             | (((with_reducible apply go_bx_agg); rfl; rfl; (exact Nat.le_of_ble_eq_true rfl); rfl; rfl)))
           | ((with_reducible (show evOps _ _ _ _ _ _)); first
             | (with_reducible apply go_nil)
             | ((with_reducible apply go_pre); rfl))
           | ((with_reducible (show evG _ _ _ _ _)); first
             | (with_reducible apply go_seq)
             | (with_reducible apply go_region)
             | (((with_reducible apply go_cond); rfl) <;> (intro h; simp only [h]; try simp only [decide_eq_true_eq, decide_eq_false_iff_not, Bool.not_eq_true', Bool.not_eq_false', Bool.not_true, Bool.not_false] at h; try exact absurd trivial h))
             | ((with_reducible apply go_order); kernel_rfl; rfl)
             | (with_reducible apply go_ret)
             | (with_reducible apply go_skipc))
           | (with_reducible apply go_kseq)
           | (with_reducible apply go_kseq_ret)
           | ((with_reducible apply end_t2); rfl; rfl; rfl; rfl)
    all_goals first | rfl | (exfalso; omega)
def quarP (p : Pt) : Pt := ⟨0 - p.y, p.x⟩
theorem quar_ok {p : Pt} (h : ptOK p = true) : ptOK (quarP p) = true := by
  have := pt_bd h
  rw [ptOK, decide_eq_true_eq]
  show (-1000000 ≤ 0 - p.y ∧ 0 - p.y ≤ 1000000) ∧ (-1000000 ≤ p.x ∧ p.x ≤ 1000000)
  omega
theorem c_at (x y : Int) : Contract Try.prog 72 [.int .i64 x, .int .i64 y] (.ret (.agg (encPt ⟨x, y⟩))) := by
  refine contract_of mix Try.func72 rfl rfl (by rw [Try.ntmps72]; exact Nat.le_of_ble_eq_true rfl) ?_; rw [Try.results72, Try.ntmps72]; simp only [argsE, Nat.reduceAdd]
  repeat' first
           | (with_reducible apply go_op)
           | (with_reducible apply go_next)
           | ((with_reducible (show evOp _ _ _ _ _ _)); first
             | (((with_reducible apply go_mv_int); rfl; rfl))
             | (((with_reducible apply go_st_agg); rfl; rfl; rfl; rfl; rfl; rfl; rfl))
             | (((with_reducible apply go_bd2_int); rfl; rfl; rfl; rfl))
             | (((with_reducible apply go_alloc); rfl; rfl; rfl)))
           | ((with_reducible (show evOps _ _ _ _ _ _)); first
             | (with_reducible apply go_nil))
           | ((with_reducible (show evG _ _ _ _ _)); first
             | (with_reducible apply go_seq)
             | (with_reducible apply go_region)
             | (with_reducible apply go_ret))
           | (with_reducible apply go_kseq)
           | ((with_reducible apply end_agg); rfl; rfl)
  all_goals rfl
theorem c_quarter (p : Pt) (h : ptOK p = true) : Contract Try.prog 60 [.agg (encPt p)] (.ret (.agg (encPt (quarP p)))) := by
  have := pt_bd h
  refine contract_of mix Try.func60 rfl rfl (by rw [Try.ntmps60]; exact Nat.le_of_ble_eq_true rfl) ?_; rw [Try.results60, Try.ntmps60]; simp only [argsE, Nat.reduceAdd]
  repeat' first
           | (with_reducible apply go_op)
           | (with_reducible apply go_next)
           | ((with_reducible (show evOp _ _ _ _ _ _)); first
             | (((with_reducible apply go_load_own); rfl; rfl; rfl; rfl))
             | (((with_reducible apply go_fieldAddr_own); rfl; rfl; rfl))
             | (((with_reducible apply go_fn_plain); rfl; (exact c_at _ _); rfl; (exact Nat.le_of_ble_eq_true rfl); rfl))
             | (((with_reducible apply go_st_agg); rfl; rfl; rfl; rfl; rfl; rfl; rfl))
             | (((with_reducible apply go_neg); rfl; rfl; omega))
             | (((with_reducible apply go_bx_agg); rfl; rfl; (exact Nat.le_of_ble_eq_true rfl); rfl; rfl))
             | (((with_reducible apply go_alloc); rfl; rfl; rfl)))
           | ((with_reducible (show evOps _ _ _ _ _ _)); first
             | (with_reducible apply go_nil))
           | ((with_reducible (show evG _ _ _ _ _)); first
             | (with_reducible apply go_seq)
             | (with_reducible apply go_region)
             | (with_reducible apply go_ret))
           | (with_reducible apply go_kseq)
           | ((with_reducible apply end_agg); rfl; rfl)
  all_goals rfl
end Go.Pv.Geo

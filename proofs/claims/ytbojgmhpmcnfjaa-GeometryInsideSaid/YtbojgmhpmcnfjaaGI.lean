import Derived.Test.YtbojgmhpmcnfjaaGH
/- Part of the proofs over Ytbojgmhpmcnfjaa: H14. -/
set_option linter.unusedVariables false
set_option linter.unusedSimpArgs false
set_option linter.unnecessarySimpa false
namespace Go.Pv.Geo
/- Polygons, turned over and begun elsewhere: plain. -/
theorem sumTo_congr {f g : Nat → Int} : ∀ {n : Nat}, (∀ i, i < n → f i = g i) → sumTo f n = sumTo g n
  | 0, _ => rfl
  | n + 1, h => by simp only [sumTo]; rw [sumTo_congr fun i hi => h i (by omega), h n (by omega)]
theorem sumTo_front (f : Nat → Int) : ∀ n : Nat, sumTo f (n + 1) = f 0 + sumTo (fun i => f (i + 1)) n
  | 0 => by simp [sumTo]
  | n + 1 => by
    have ih := sumTo_front f n
    rw [sumTo, ih]
    simp only [sumTo]
    omega
theorem sumTo_rev (f : Nat → Int) : ∀ n : Nat, sumTo (fun j => f (n - 1 - j)) n = sumTo f n
  | 0 => rfl
  | n + 1 => by
    rw [sumTo_front, sumTo]
    have : sumTo (fun i => f (n + 1 - 1 - (i + 1))) n = sumTo (fun j => f (n - 1 - j)) n := sumTo_congr fun i hi => by rw [show n + 1 - 1 - (i + 1) = n - 1 - i by omega]
    rw [this, sumTo_rev f n]
    simp only [Nat.add_sub_cancel, Nat.sub_zero]
    omega
theorem sumTo_step (g : Nat → Int) (n : Nat) : sumTo (fun i => g (i + 1)) n = sumTo g n - g 0 + g n := by
  have := sumTo_front g n
  simp only [sumTo] at this
  omega
theorem sumTo_shift {f : Nat → Int} {n : Nat} (h : ∀ i, f (i + n) = f i) : ∀ s : Nat, sumTo (fun i => f (i + s)) n = sumTo f n
  | 0 => rfl
  | s + 1 => by
    have ih := sumTo_shift h s
    have := sumTo_step (fun i => f (i + s)) n
    have e : sumTo (fun i => f (i + (s + 1))) n = sumTo (fun i => f (i + 1 + s)) n := sumTo_congr fun i _ => by rw [show i + (s + 1) = i + 1 + s by omega]
    rw [e, this, ih]
    have := h s
    rw [Nat.add_comm n s, this, Nat.zero_add]
    omega
theorem sumTo_neg (f : Nat → Int) : ∀ n : Nat, sumTo (fun i => -f i) n = -sumTo f n
  | 0 => rfl
  | n + 1 => by simp only [sumTo]; rw [sumTo_neg f n]; omega
theorem sumTo_sub (f g : Nat → Int) : ∀ n : Nat, sumTo (fun i => f i - g i) n = sumTo f n - sumTo g n
  | 0 => rfl
  | n + 1 => by simp only [sumTo]; rw [sumTo_sub f g n]; omega

theorem corner_mod {l : List Pt} {i j : Nat} (h : i % l.length = j % l.length) : cornerP l i = cornerP l j := by unfold cornerP; rw [h]
theorem corner_per (l : List Pt) (i : Nat) : cornerP l (i + l.length) = cornerP l i := corner_mod (by simp)
/-- The corners the other way round, from another one on. -/
def turnL (l : List Pt) (k : Nat) : List Pt := (List.range l.length).map fun j => cornerP l (l.length - 1 - j + k)
theorem turn_len (l : List Pt) (k : Nat) : (turnL l k).length = l.length := by simp [turnL]
def mT (l : List Pt) (k j : Nat) : Nat := l.length - 1 - j % l.length + k
theorem corner_turn {l : List Pt} (h0 : 0 < l.length) (k j : Nat) : cornerP (turnL l k) j = cornerP l (mT l k j) := by
  rw [cornerP_get (by rw [turn_len]; exact h0)]
  simp [turnL, mT]
theorem mod_lt' {n : Nat} (h0 : 0 < n) (j : Nat) : (j + 1) % n = if j % n + 1 = n then 0 else j % n + 1 := by
  have h := Nat.mod_lt j h0
  rw [Nat.add_mod]
  split
  · rename_i e
    rcases Nat.lt_or_ge 1 n with h1 | h1
    · rw [Nat.mod_eq_of_lt h1, e, Nat.mod_self]
    · have : n = 1 := by omega
      subst this; simp [Nat.mod_one]
  · rename_i e
    rw [Nat.mod_eq_of_lt (show 1 < n by omega), Nat.mod_eq_of_lt (by omega)]
theorem mT_step {l : List Pt} (h0 : 0 < l.length) (k j : Nat) : mT l k (j + 1) % l.length = (mT l k j + l.length - 1) % l.length := by
  have h := Nat.mod_lt j h0
  unfold mT
  rw [mod_lt' h0]
  split
  · rename_i e
    rw [show l.length - 1 - 0 + k = l.length - 1 - j % l.length + k + l.length - 1 by omega]
  · rename_i e
    rw [show l.length - 1 - j % l.length + k + l.length - 1 = (l.length - 1 - (j % l.length + 1) + k) + l.length by omega, Nat.add_mod_right]
theorem corner_turn1 {l : List Pt} (h0 : 0 < l.length) (k j : Nat) : cornerP (turnL l k) (j + 1) = cornerP l (mT l k j + l.length - 1) := by
  rw [corner_turn h0]; exact corner_mod (mT_step h0 k j)
theorem corner_turn2 {l : List Pt} (h0 : 2 ≤ l.length) (k j : Nat) : cornerP (turnL l k) (j + 2) = cornerP l (mT l k j + l.length - 2) := by
  rw [corner_turn (by omega)]
  refine corner_mod ?_
  rw [mT_step (by omega) k (j + 1)]
  have := mT_step (l := l) (by omega) k j
  have e1 : mT l k (j + 1) + l.length - 1 = mT l k (j + 1) + (l.length - 1) := by omega
  rw [e1, Nat.add_mod, this, ← Nat.add_mod]
  have e2 : mT l k j + l.length - 1 + (l.length - 1) = mT l k j + l.length - 2 + l.length := by omega
  rw [e2, Nat.add_mod_right]

theorem on_swap' (a b p : Pt) : onE b a p = onE a b p := by
  have h : crossE b a p = -crossE a b p := by simp only [crossE]; grind
  rw [Bool.eq_iff_iff]
  simp only [onE, decide_eq_true_eq, h]
  omega
theorem sgn_neg (n : Int) : signE (-n) = -signE n := by unfold signE; (repeat' split) <;> omega
theorem meet_rev (a b c d : Pt) : meetE b a d c = meetE a b c d := by
  have h1 : crossE b a d = -crossE a b d := by simp only [crossE]; grind
  have h2 : crossE b a c = -crossE a b c := by simp only [crossE]; grind
  have h3 : crossE d c b = -crossE c d b := by simp only [crossE]; grind
  have h4 : crossE d c a = -crossE c d a := by simp only [crossE]; grind
  unfold meetE
  rw [on_swap' a b, on_swap' a b, on_swap' c d, on_swap' c d, h1, h2, h3, h4, sgn_neg, sgn_neg, sgn_neg, sgn_neg, Int.neg_mul_neg, Int.neg_mul_neg, Int.mul_comm (signE (crossE a b d)), Int.mul_comm (signE (crossE c d b))]
  cases onE a b c <;> cases onE a b d <;> cases onE c d a <;> cases onE c d b <;> simp
theorem meet_comm (a b c d : Pt) : meetE c d a b = meetE a b c d := by
  unfold meetE
  cases onE a b c <;> cases onE a b d <;> cases onE c d a <;> cases onE c d b <;> simp [Bool.and_comm]
theorem simple_inv {l : List Pt} (h : simpleE l = true) : (∀ i, i < l.length → turnBad l i = false) ∧ ∀ i, i < l.length → ∀ k, k < l.length → i + 2 ≤ k → pairBad l i k = false := by
  rw [simpleE, List.all_eq_true] at h
  refine ⟨fun i hi => ?_, fun i hi k hk hik => ?_⟩
  · have := h i (List.mem_range.2 hi)
    simp only [Bool.and_eq_true, Bool.not_eq_true'] at this
    exact this.1
  · have := h i (List.mem_range.2 hi)
    simp only [Bool.and_eq_true, List.all_eq_true] at this
    have := this.2 k (List.mem_range.2 hk)
    simpa [hik] using this
theorem meet_any {l : List Pt} (h0 : 0 < l.length) (h : simpleE l = true) (i k : Nat) (h1 : i % l.length ≠ k % l.length) (h2 : (i + 1) % l.length ≠ k % l.length) (h3 : (k + 1) % l.length ≠ i % l.length) :
    meetE (cornerP l i) (cornerP l (i + 1)) (cornerP l k) (cornerP l (k + 1)) = false := by
  have key : ∀ i k : Nat, i < l.length → k < l.length → i < k → (i + 1) % l.length ≠ k → (k + 1) % l.length ≠ i → meetE (cornerP l i) (cornerP l (i + 1)) (cornerP l k) (cornerP l (k + 1)) = false := by
    intro i k hi hk hik h2 h3
    have hik2 : i + 2 ≤ k := by
      rcases Nat.lt_or_ge (i + 1) k with h | h
      · omega
      · have : k = i + 1 := by omega
        subst this
        rw [Nat.mod_eq_of_lt hk] at h2
        exact (h2 rfl).elim
    have := (simple_inv h).2 i hi k hk hik2
    simp only [pairBad] at this
    rw [decide_eq_true h3, Bool.true_and] at this
    exact this
  have hi := Nat.mod_lt i h0
  have hk := Nat.mod_lt k h0
  have e1 : cornerP l i = cornerP l (i % l.length) := corner_mod (by rw [Nat.mod_mod])
  have e2 : cornerP l k = cornerP l (k % l.length) := corner_mod (by rw [Nat.mod_mod])
  have f1 : (i % l.length + 1) % l.length = (i + 1) % l.length := by rw [Nat.add_mod, Nat.mod_mod, ← Nat.add_mod]
  have f2 : (k % l.length + 1) % l.length = (k + 1) % l.length := by rw [Nat.add_mod, Nat.mod_mod, ← Nat.add_mod]
  have e3 : cornerP l (i + 1) = cornerP l (i % l.length + 1) := corner_mod f1.symm
  have e4 : cornerP l (k + 1) = cornerP l (k % l.length + 1) := corner_mod f2.symm
  rw [e1, e2, e3, e4]
  rcases Nat.lt_or_ge (i % l.length) (k % l.length) with hlt | hge
  · exact key _ _ hi hk hlt (by rw [f1]; exact h2) (by rw [f2]; exact h3)
  · rw [meet_comm]
    exact key _ _ hk hi (by omega) (by rw [f2]; exact h3) (by rw [f1]; exact h2)
theorem mod_ne {n m d : Nat} (h : 0 < d) (h' : d < n) : (m + d) % n ≠ m % n := by
  intro e
  have := Nat.sub_mod_eq_zero_of_mod_eq e
  rw [Nat.add_sub_cancel_left, Nat.mod_eq_of_lt h'] at this
  omega
theorem turn_mod {l : List Pt} {i j : Nat} (h : i % l.length = j % l.length) : turnBad l i = turnBad l j := by
  have h1 : (i + 1) % l.length = (j + 1) % l.length := by rw [Nat.add_mod, h, ← Nat.add_mod]
  have h2 : (i + 2) % l.length = (j + 2) % l.length := by rw [Nat.add_mod, h, ← Nat.add_mod]
  unfold turnBad
  rw [corner_mod h, corner_mod h1, corner_mod h2]
theorem turn_any {l : List Pt} (h0 : 0 < l.length) (h : simpleE l = true) (i : Nat) : turnBad l i = false := by
  rw [turn_mod (show i % l.length = (i % l.length) % l.length by rw [Nat.mod_mod])]
  exact (simple_inv h).1 _ (Nat.mod_lt _ h0)
theorem ptEq_comm (a b : Pt) : ptEq a b = ptEq b a := by
  rw [Bool.eq_iff_iff, ptEq_iff, ptEq_iff]; exact eq_comm

theorem simple_turned {l : List Pt} (h3 : 3 ≤ l.length) (h : simpleE l = true) (k : Nat) : simpleE (turnL l k) = true := by
  have h0 : 0 < l.length := by omega
  refine simple_yes (fun j hj => ?_) fun i hi j hj hij => ?_
  · rw [turn_len] at hj
    unfold turnBad
    rw [corner_turn h0, corner_turn1 h0, corner_turn2 (by omega)]
    have t1 := turn_any h0 h (mT l k j + l.length - 2)
    have t2 := turn_any h0 h (mT l k j + l.length - 1)
    unfold turnBad at t1 t2
    rw [show mT l k j + l.length - 2 + 1 = mT l k j + l.length - 1 by omega, show mT l k j + l.length - 2 + 2 = mT l k j + l.length by omega, corner_per] at t1
    rw [show mT l k j + l.length - 1 + 1 = mT l k j + l.length by omega, corner_per] at t2
    simp only [Bool.or_eq_false_iff] at t1 t2 ⊢
    refine ⟨⟨?_, ?_⟩, ?_⟩
    · rw [ptEq_comm]; exact t2.1.1
    · rw [on_swap']; exact t1.2
    · rw [on_swap']; exact t1.1.2
  · rw [turn_len] at hi hj
    unfold pairBad
    rw [turn_len, corner_turn h0, corner_turn1 h0, corner_turn h0, corner_turn1 h0]
    by_cases hc : (j + 1) % l.length = i
    · simp [hc]
    · rw [decide_eq_true hc, Bool.true_and]
      have e1 : mT l k i = l.length - 1 - i + k := by unfold mT; rw [Nat.mod_eq_of_lt hi]
      have e2 : mT l k j = l.length - 1 - j + k := by unfold mT; rw [Nat.mod_eq_of_lt hj]
      have hd : j - i ≤ l.length - 2 := by
        rcases Nat.lt_or_ge (j + 1) l.length with hlt | hge
        · omega
        · have : j + 1 = l.length := by omega
          rw [this, Nat.mod_self] at hc
          omega
      have hm := meet_any h0 h (mT l k i + l.length - 1) (mT l k j + l.length - 1) ?_ ?_ ?_
      · rw [show mT l k i + l.length - 1 + 1 = mT l k i + l.length by omega, show mT l k j + l.length - 1 + 1 = mT l k j + l.length by omega, corner_per, corner_per] at hm
        rw [← meet_rev]; exact hm
      · rw [show mT l k i + l.length - 1 = mT l k j + l.length - 1 + (j - i) by omega]
        exact mod_ne (by omega) (by omega)
      · rw [show mT l k i + l.length - 1 + 1 = mT l k j + l.length - 1 + (j - i + 1) by omega]
        exact mod_ne (by omega) (by omega)
      · rw [show mT l k i + l.length - 1 = mT l k j + l.length - 1 + 1 + (j - i - 1) by omega]
        exact (mod_ne (by omega) (by omega)).symm

def wE (p q : Pt) : Int := p.x * q.y - p.y * q.x
theorem cross_w (o a b : Pt) : crossE o a b = wE a b - (wE o b - wE o a) := by simp only [crossE, wE]; grind
theorem area_w {l : List Pt} : areaS l = sumTo (fun i => wE (cornerP l i) (cornerP l (i + 1))) l.length := by
  have e : areaS l = sumTo (fun i => wE (cornerP l i) (cornerP l (i + 1)) - (wE (cornerP l 0) (cornerP l (i + 1)) - wE (cornerP l 0) (cornerP l i))) l.length :=
    sumTo_congr fun i _ => cross_w _ _ _
  rw [e, sumTo_sub, sumTo_sub, sumTo_step (fun i => wE (cornerP l 0) (cornerP l i))]
  have : cornerP l l.length = cornerP l 0 := by have := corner_per l 0; rwa [Nat.zero_add] at this
  rw [this]
  omega
theorem w_swap (p q : Pt) : wE p q = -wE q p := by simp only [wE]; grind
theorem area_turned {l : List Pt} (h3 : 3 ≤ l.length) (k : Nat) : areaS (turnL l k) = -areaS l := by
  have h0 : 0 < l.length := by omega
  rw [area_w, area_w, turn_len]
  let W : Nat → Int := fun i => wE (cornerP l i) (cornerP l (i + 1))
  have hper : ∀ i, W (i + l.length) = W i := fun i => by
    simp only [W]
    rw [corner_per, show i + l.length + 1 = (i + 1) + l.length by omega, corner_per]
  have e : sumTo (fun j => wE (cornerP (turnL l k) j) (cornerP (turnL l k) (j + 1))) l.length = sumTo (fun j => -(fun t => W (t + (l.length - 1 + k))) (l.length - 1 - j)) l.length := by
    refine sumTo_congr fun j hj => ?_
    rw [corner_turn h0, corner_turn1 h0, w_swap]
    have e1 : mT l k j = l.length - 1 - j + k := by unfold mT; rw [Nat.mod_eq_of_lt hj]
    simp only [W]
    rw [show l.length - 1 - j + (l.length - 1 + k) = mT l k j + l.length - 1 by omega, show mT l k j + l.length - 1 + 1 = mT l k j + l.length by omega, corner_per]
  rw [e, sumTo_neg, sumTo_rev (fun t => W (t + (l.length - 1 + k))), sumTo_shift hper]
theorem poly_turned {l : List Pt} (h : polyE l = 0) (k : Nat) : polyE (turnL l k) = 0 ∧ areaE (turnL l k) = areaE l := by
  obtain ⟨⟨h3, h40⟩, hok, hs⟩ := poly_ok h
  refine ⟨?_, ?_⟩
  · unfold polyE
    rw [turn_len, if_neg (by omega), if_neg (by omega), if_neg, if_pos (simple_turned h3 hs k)]
    simp only [List.any_eq_true, not_exists, not_and]
    intro p hp
    obtain ⟨j, hj, rfl⟩ := List.mem_map.1 hp
    rw [hok _ (cornerP_mem (by omega) _)]; simp
  · unfold areaE
    rw [area_turned h3]
    unfold absE; (repeat' split) <;> omega
end Go.Pv.Geo

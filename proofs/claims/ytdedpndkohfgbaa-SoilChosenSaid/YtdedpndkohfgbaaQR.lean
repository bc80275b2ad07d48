import Derived.Test.YtdedpndkohfgbaaProg
import Derived.Test.YtdedpndkohfgbaaQQ
import Derived.KernelRfl
/- Part of the proofs over Ytdedpndkohfgbaa: PH13, PH14, PH16, PH17. -/
set_option linter.unusedVariables false
set_option linter.unusedSimpArgs false
set_option linter.unnecessarySimpa false
open Go Go.Proofs Go.Pv
set_option maxHeartbeats 4000000
set_option maxRecDepth 100000
set_option linter.unusedSimpArgs false
set_option linter.unusedVariables false
namespace Go.Pv.Geo
def sumTo (f : Nat → Int) : Nat → Int
  | 0 => 0
  | i + 1 => sumTo f i + f i
theorem sumTo_bd {f : Nat → Int} {B : Int} (h : ∀ i, -B ≤ f i ∧ f i ≤ B) : ∀ n : Nat, -(B * n) ≤ sumTo f n ∧ sumTo f n ≤ B * n
  | 0 => by simp [sumTo]
  | n + 1 => by
    have ih := sumTo_bd h n
    have := h n
    have e : B * ((n + 1 : Nat) : Int) = B * n + B := by rw [show ((n + 1 : Nat) : Int) = (n : Int) + 1 by rfl, Int.mul_add, Int.mul_one]
    simp only [sumTo]
    omega
def areaT (l : List Pt) (i : Nat) : Int := crossE (cornerP l 0) (cornerP l i) (cornerP l (i + 1))
def areaS (l : List Pt) : Int := sumTo (areaT l) l.length
def areaE (l : List Pt) : Int := absE (areaS l)
theorem areaT_bd {l : List Pt} (h0 : 0 < l.length) (hok : ∀ p ∈ l, ptOK p = true) (i : Nat) : -8000000000000 ≤ areaT l i ∧ areaT l i ≤ 8000000000000 :=
  crossE_bd (hok _ (cornerP_mem h0 _)) (hok _ (cornerP_mem h0 _)) (hok _ (cornerP_mem h0 _))
theorem areaS_bd {l : List Pt} (h0 : 0 < l.length) (h40 : l.length ≤ 40) (hok : ∀ p ∈ l, ptOK p = true) {i : Nat} (hi : i ≤ 40) : -320000000000000 ≤ sumTo (areaT l) i ∧ sumTo (areaT l) i ≤ 320000000000000 := by
  have := sumTo_bd (areaT_bd h0 hok) i
  omega
theorem max_abs (n : Int) : max n (0 - n) = absE n := by unfold absE; split <;> omega
end Go.Pv.Geo

namespace Go.Pv.Geo
/- Polygons, turned over and begun elsewhere: plain. -/
theorem sumTo_congr {f g : Nat → Int} : ∀ {n : Nat}, (∀ i, i < n → f i = g i) → sumTo f n = sumTo g n
  | 0, _ => rfl
  | n + 1, h => by simp only [sumTo]; rw [sumTo_congr fun i hi => h i (by omega), h n (by omega)]
theorem sumTo_front (f : Nat → Int) : ∀ n : Nat, sumTo f (n + 1) = f 0 + sumTo (fun i => f (i + 1)) n
  | 0 => by simp [sumTo]
  | n + 1 => by
    have ih := sumTo_front f n
    rw [sumTo, ih]
    simp only [sumTo]
    omega
theorem sumTo_rev (f : Nat → Int) : ∀ n : Nat, sumTo (fun j => f (n - 1 - j)) n = sumTo f n
  | 0 => rfl
  | n + 1 => by
    rw [sumTo_front, sumTo]
    have : sumTo (fun i => f (n + 1 - 1 - (i + 1))) n = sumTo (fun j => f (n - 1 - j)) n := sumTo_congr fun i hi => by rw [show n + 1 - 1 - (i + 1) = n - 1 - i by omega]
    rw [this, sumTo_rev f n]
    simp only [Nat.add_sub_cancel, Nat.sub_zero]
    omega
theorem sumTo_step (g : Nat → Int) (n : Nat) : sumTo (fun i => g (i + 1)) n = sumTo g n - g 0 + g n := by
  have := sumTo_front g n
  simp only [sumTo] at this
  omega
theorem sumTo_shift {f : Nat → Int} {n : Nat} (h : ∀ i, f (i + n) = f i) : ∀ s : Nat, sumTo (fun i => f (i + s)) n = sumTo f n
  | 0 => rfl
  | s + 1 => by
    have ih := sumTo_shift h s
    have := sumTo_step (fun i => f (i + s)) n
    have e : sumTo (fun i => f (i + (s + 1))) n = sumTo (fun i => f (i + 1 + s)) n := sumTo_congr fun i _ => by rw [show i + (s + 1) = i + 1 + s by omega]
    rw [e, this, ih]
    have := h s
    rw [Nat.add_comm n s, this, Nat.zero_add]
    omega
theorem sumTo_neg (f : Nat → Int) : ∀ n : Nat, sumTo (fun i => -f i) n = -sumTo f n
  | 0 => rfl
  | n + 1 => by simp only [sumTo]; rw [sumTo_neg f n]; omega
theorem sumTo_sub (f g : Nat → Int) : ∀ n : Nat, sumTo (fun i => f i - g i) n = sumTo f n - sumTo g n
  | 0 => rfl
  | n + 1 => by simp only [sumTo]; rw [sumTo_sub f g n]; omega

theorem corner_mod {l : List Pt} {i j : Nat} (h : i % l.length = j % l.length) : cornerP l i = cornerP l j := by unfold cornerP; rw [h]
theorem corner_per (l : List Pt) (i : Nat) : cornerP l (i + l.length) = cornerP l i := corner_mod (by simp)
/-- The corners the other way round, from another one on. -/
def turnL (l : List Pt) (k : Nat) : List Pt := (List.range l.length).map fun j => cornerP l (l.length - 1 - j + k)
theorem turn_len (l : List Pt) (k : Nat) : (turnL l k).length = l.length := by simp [turnL]
def mT (l : List Pt) (k j : Nat) : Nat := l.length - 1 - j % l.length + k
theorem corner_turn {l : List Pt} (h0 : 0 < l.length) (k j : Nat) : cornerP (turnL l k) j = cornerP l (mT l k j) := by
  rw [cornerP_get (by rw [turn_len]; exact h0)]
  simp [turnL, mT]
theorem mod_lt' {n : Nat} (h0 : 0 < n) (j : Nat) : (j + 1) % n = if j % n + 1 = n then 0 else j % n + 1 := by
  have h := Nat.mod_lt j h0
  rw [Nat.add_mod]
  split
  · rename_i e
    rcases Nat.lt_or_ge 1 n with h1 | h1
    · rw [Nat.mod_eq_of_lt h1, e, Nat.mod_self]
    · have : n = 1 := by omega
      subst this; simp [Nat.mod_one]
  · rename_i e
    rw [Nat.mod_eq_of_lt (show 1 < n by omega), Nat.mod_eq_of_lt (by omega)]
theorem mT_step {l : List Pt} (h0 : 0 < l.length) (k j : Nat) : mT l k (j + 1) % l.length = (mT l k j + l.length - 1) % l.length := by
  have h := Nat.mod_lt j h0
  unfold mT
  rw [mod_lt' h0]
  split
  · rename_i e
    rw [show l.length - 1 - 0 + k = l.length - 1 - j % l.length + k + l.length - 1 by omega]
  · rename_i e
    rw [show l.length - 1 - j % l.length + k + l.length - 1 = (l.length - 1 - (j % l.length + 1) + k) + l.length by omega, Nat.add_mod_right]
theorem corner_turn1 {l : List Pt} (h0 : 0 < l.length) (k j : Nat) : cornerP (turnL l k) (j + 1) = cornerP l (mT l k j + l.length - 1) := by
  rw [corner_turn h0]; exact corner_mod (mT_step h0 k j)
theorem corner_turn2 {l : List Pt} (h0 : 2 ≤ l.length) (k j : Nat) : cornerP (turnL l k) (j + 2) = cornerP l (mT l k j + l.length - 2) := by
  rw [corner_turn (by omega)]
  refine corner_mod ?_
  rw [mT_step (by omega) k (j + 1)]
  have := mT_step (l := l) (by omega) k j
  have e1 : mT l k (j + 1) + l.length - 1 = mT l k (j + 1) + (l.length - 1) := by omega
  rw [e1, Nat.add_mod, this, ← Nat.add_mod]
  have e2 : mT l k j + l.length - 1 + (l.length - 1) = mT l k j + l.length - 2 + l.length := by omega
  rw [e2, Nat.add_mod_right]

theorem on_swap' (a b p : Pt) : onE b a p = onE a b p := by
  have h : crossE b a p = -crossE a b p := by simp only [crossE]; grind
  rw [Bool.eq_iff_iff]
  simp only [onE, decide_eq_true_eq, h]
  omega
theorem sgn_neg (n : Int) : signE (-n) = -signE n := by unfold signE; (repeat' split) <;> omega
theorem meet_rev (a b c d : Pt) : meetE b a d c = meetE a b c d := by
  have h1 : crossE b a d = -crossE a b d := by simp only [crossE]; grind
  have h2 : crossE b a c = -crossE a b c := by simp only [crossE]; grind
  have h3 : crossE d c b = -crossE c d b := by simp only [crossE]; grind
  have h4 : crossE d c a = -crossE c d a := by simp only [crossE]; grind
  unfold meetE
  rw [on_swap' a b, on_swap' a b, on_swap' c d, on_swap' c d, h1, h2, h3, h4, sgn_neg, sgn_neg, sgn_neg, sgn_neg, Int.neg_mul_neg, Int.neg_mul_neg, Int.mul_comm (signE (crossE a b d)), Int.mul_comm (signE (crossE c d b))]
  cases onE a b c <;> cases onE a b d <;> cases onE c d a <;> cases onE c d b <;> simp
theorem meet_comm (a b c d : Pt) : meetE c d a b = meetE a b c d := by
  unfold meetE
  cases onE a b c <;> cases onE a b d <;> cases onE c d a <;> cases onE c d b <;> simp [Bool.and_comm]
theorem simple_inv {l : List Pt} (h : simpleE l = true) : (∀ i, i < l.length → turnBad l i = false) ∧ ∀ i, i < l.length → ∀ k, k < l.length → i + 2 ≤ k → pairBad l i k = false := by
  rw [simpleE, List.all_eq_true] at h
  refine ⟨fun i hi => ?_, fun i hi k hk hik => ?_⟩
  · have := h i (List.mem_range.2 hi)
    simp only [Bool.and_eq_true, Bool.not_eq_true'] at this
    exact this.1
  · have := h i (List.mem_range.2 hi)
    simp only [Bool.and_eq_true, List.all_eq_true] at this
    have := this.2 k (List.mem_range.2 hk)
    simpa [hik] using this
theorem meet_any {l : List Pt} (h0 : 0 < l.length) (h : simpleE l = true) (i k : Nat) (h1 : i % l.length ≠ k % l.length) (h2 : (i + 1) % l.length ≠ k % l.length) (h3 : (k + 1) % l.length ≠ i % l.length) :
    meetE (cornerP l i) (cornerP l (i + 1)) (cornerP l k) (cornerP l (k + 1)) = false := by
  have key : ∀ i k : Nat, i < l.length → k < l.length → i < k → (i + 1) % l.length ≠ k → (k + 1) % l.length ≠ i → meetE (cornerP l i) (cornerP l (i + 1)) (cornerP l k) (cornerP l (k + 1)) = false := by
    intro i k hi hk hik h2 h3
    have hik2 : i + 2 ≤ k := by
      rcases Nat.lt_or_ge (i + 1) k with h | h
      · omega
      · have : k = i + 1 := by omega
        subst this
        rw [Nat.mod_eq_of_lt hk] at h2
        exact (h2 rfl).elim
    have := (simple_inv h).2 i hi k hk hik2
    simp only [pairBad] at this
    rw [decide_eq_true h3, Bool.true_and] at this
    exact this
  have hi := Nat.mod_lt i h0
  have hk := Nat.mod_lt k h0
  have e1 : cornerP l i = cornerP l (i % l.length) := corner_mod (by rw [Nat.mod_mod])
  have e2 : cornerP l k = cornerP l (k % l.length) := corner_mod (by rw [Nat.mod_mod])
  have f1 : (i % l.length + 1) % l.length = (i + 1) % l.length := by rw [Nat.add_mod, Nat.mod_mod, ← Nat.add_mod]
  have f2 : (k % l.length + 1) % l.length = (k + 1) % l.length := by rw [Nat.add_mod, Nat.mod_mod, ← Nat.add_mod]
  have e3 : cornerP l (i + 1) = cornerP l (i % l.length + 1) := corner_mod f1.symm
  have e4 : cornerP l (k + 1) = cornerP l (k % l.length + 1) := corner_mod f2.symm
  rw [e1, e2, e3, e4]
  rcases Nat.lt_or_ge (i % l.length) (k % l.length) with hlt | hge
  · exact key _ _ hi hk hlt (by rw [f1]; exact h2) (by rw [f2]; exact h3)
  · rw [meet_comm]
    exact key _ _ hk hi (by omega) (by rw [f2]; exact h3) (by rw [f1]; exact h2)
theorem mod_ne {n m d : Nat} (h : 0 < d) (h' : d < n) : (m + d) % n ≠ m % n := by
  intro e
  have := Nat.sub_mod_eq_zero_of_mod_eq e
  rw [Nat.add_sub_cancel_left, Nat.mod_eq_of_lt h'] at this
  omega
theorem turn_mod {l : List Pt} {i j : Nat} (h : i % l.length = j % l.length) : turnBad l i = turnBad l j := by
  have h1 : (i + 1) % l.length = (j + 1) % l.length := by rw [Nat.add_mod, h, ← Nat.add_mod]
  have h2 : (i + 2) % l.length = (j + 2) % l.length := by rw [Nat.add_mod, h, ← Nat.add_mod]
  unfold turnBad
  rw [corner_mod h, corner_mod h1, corner_mod h2]
theorem turn_any {l : List Pt} (h0 : 0 < l.length) (h : simpleE l = true) (i : Nat) : turnBad l i = false := by
  rw [turn_mod (show i % l.length = (i % l.length) % l.length by rw [Nat.mod_mod])]
  exact (simple_inv h).1 _ (Nat.mod_lt _ h0)
theorem ptEq_comm (a b : Pt) : ptEq a b = ptEq b a := by
  rw [Bool.eq_iff_iff, ptEq_iff, ptEq_iff]; exact eq_comm

theorem simple_turned {l : List Pt} (h3 : 3 ≤ l.length) (h : simpleE l = true) (k : Nat) : simpleE (turnL l k) = true := by
  have h0 : 0 < l.length := by omega
  refine simple_yes (fun j hj => ?_) fun i hi j hj hij => ?_
  · rw [turn_len] at hj
    unfold turnBad
    rw [corner_turn h0, corner_turn1 h0, corner_turn2 (by omega)]
    have t1 := turn_any h0 h (mT l k j + l.length - 2)
    have t2 := turn_any h0 h (mT l k j + l.length - 1)
    unfold turnBad at t1 t2
    rw [show mT l k j + l.length - 2 + 1 = mT l k j + l.length - 1 by omega, show mT l k j + l.length - 2 + 2 = mT l k j + l.length by omega, corner_per] at t1
    rw [show mT l k j + l.length - 1 + 1 = mT l k j + l.length by omega, corner_per] at t2
    simp only [Bool.or_eq_false_iff] at t1 t2 ⊢
    refine ⟨⟨?_, ?_⟩, ?_⟩
    · rw [ptEq_comm]; exact t2.1.1
    · rw [on_swap']; exact t1.2
    · rw [on_swap']; exact t1.1.2
  · rw [turn_len] at hi hj
    unfold pairBad
    rw [turn_len, corner_turn h0, corner_turn1 h0, corner_turn h0, corner_turn1 h0]
    by_cases hc : (j + 1) % l.length = i
    · simp [hc]
    · rw [decide_eq_true hc, Bool.true_and]
      have e1 : mT l k i = l.length - 1 - i + k := by unfold mT; rw [Nat.mod_eq_of_lt hi]
      have e2 : mT l k j = l.length - 1 - j + k := by unfold mT; rw [Nat.mod_eq_of_lt hj]
      have hd : j - i ≤ l.length - 2 := by
        rcases Nat.lt_or_ge (j + 1) l.length with hlt | hge
        · omega
        · have : j + 1 = l.length := by omega
          rw [this, Nat.mod_self] at hc
          omega
      have hm := meet_any h0 h (mT l k i + l.length - 1) (mT l k j + l.length - 1) ?_ ?_ ?_
      · rw [show mT l k i + l.length - 1 + 1 = mT l k i + l.length by omega, show mT l k j + l.length - 1 + 1 = mT l k j + l.length by omega, corner_per, corner_per] at hm
        rw [← meet_rev]; exact hm
      · rw [show mT l k i + l.length - 1 = mT l k j + l.length - 1 + (j - i) by omega]
        exact mod_ne (by omega) (by omega)
      · rw [show mT l k i + l.length - 1 + 1 = mT l k j + l.length - 1 + (j - i + 1) by omega]
        exact mod_ne (by omega) (by omega)
      · rw [show mT l k i + l.length - 1 = mT l k j + l.length - 1 + 1 + (j - i - 1) by omega]
        exact (mod_ne (by omega) (by omega)).symm

def wE (p q : Pt) : Int := p.x * q.y - p.y * q.x
theorem cross_w (o a b : Pt) : crossE o a b = wE a b - (wE o b - wE o a) := by simp only [crossE, wE]; grind
theorem area_w {l : List Pt} : areaS l = sumTo (fun i => wE (cornerP l i) (cornerP l (i + 1))) l.length := by
  have e : areaS l = sumTo (fun i => wE (cornerP l i) (cornerP l (i + 1)) - (wE (cornerP l 0) (cornerP l (i + 1)) - wE (cornerP l 0) (cornerP l i))) l.length :=
    sumTo_congr fun i _ => cross_w _ _ _
  rw [e, sumTo_sub, sumTo_sub, sumTo_step (fun i => wE (cornerP l 0) (cornerP l i))]
  have : cornerP l l.length = cornerP l 0 := by have := corner_per l 0; rwa [Nat.zero_add] at this
  rw [this]
  omega
theorem w_swap (p q : Pt) : wE p q = -wE q p := by simp only [wE]; grind
theorem area_turned {l : List Pt} (h3 : 3 ≤ l.length) (k : Nat) : areaS (turnL l k) = -areaS l := by
  have h0 : 0 < l.length := by omega
  rw [area_w, area_w, turn_len]
  let W : Nat → Int := fun i => wE (cornerP l i) (cornerP l (i + 1))
  have hper : ∀ i, W (i + l.length) = W i := fun i => by
    simp only [W]
    rw [corner_per, show i + l.length + 1 = (i + 1) + l.length by omega, corner_per]
  have e : sumTo (fun j => wE (cornerP (turnL l k) j) (cornerP (turnL l k) (j + 1))) l.length = sumTo (fun j => -(fun t => W (t + (l.length - 1 + k))) (l.length - 1 - j)) l.length := by
    refine sumTo_congr fun j hj => ?_
    rw [corner_turn h0, corner_turn1 h0, w_swap]
    have e1 : mT l k j = l.length - 1 - j + k := by unfold mT; rw [Nat.mod_eq_of_lt hj]
    simp only [W]
    rw [show l.length - 1 - j + (l.length - 1 + k) = mT l k j + l.length - 1 by omega, show mT l k j + l.length - 1 + 1 = mT l k j + l.length by omega, corner_per]
  rw [e, sumTo_neg, sumTo_rev (fun t => W (t + (l.length - 1 + k))), sumTo_shift hper]
theorem poly_turned {l : List Pt} (h : polyE l = 0) (k : Nat) : polyE (turnL l k) = 0 ∧ areaE (turnL l k) = areaE l := by
  obtain ⟨⟨h3, h40⟩, hok, hs⟩ := poly_ok h
  refine ⟨?_, ?_⟩
  · unfold polyE
    rw [turn_len, if_neg (by omega), if_neg (by omega), if_neg, if_pos (simple_turned h3 hs k)]
    simp only [List.any_eq_true, not_exists, not_and]
    intro p hp
    obtain ⟨j, hj, rfl⟩ := List.mem_map.1 hp
    rw [hok _ (cornerP_mem (by omega) _)]; simp
  · unfold areaE
    rw [area_turned h3]
    unfold absE; (repeat' split) <;> omega
end Go.Pv.Geo

namespace Go.Pv.Geo
/- The parity of the edges to the right of a point is that of the edges above it: plain. -/
/-- Is an edge met by the ray to the right; above? -/
def rightX (a b p : Pt) : Bool :=
  let u := if b.y < a.y then b else a
  let v := if b.y < a.y then a else b
  decide ((u.y ≤ p.y ∧ p.y < v.y) ∧ 0 < crossE u v p)
def upX (a b p : Pt) : Bool := decide (¬ (a.x ≤ p.x ↔ b.x ≤ p.x) ∧ (crossE a b p < 0 ↔ a.x < b.x))
theorem xor_dec {A B : Prop} [Decidable A] [Decidable B] : (decide A ^^ decide B) = decide (¬ (A ↔ B)) := by
  by_cases h : A <;> by_cases h' : B <;> simp [h, h']
def quad (a p : Pt) : Bool := decide (p.x < a.x ∧ p.y < a.y)
theorem sg {u v : Int} : (¬0 < u ∨ ¬0 < v ∨ 0 < u * v) ∧ (¬u < 0 ∨ ¬0 < v ∨ u * v < 0) ∧ (¬0 < u ∨ ¬v < 0 ∨ u * v < 0) ∧ (¬u < 0 ∨ ¬v < 0 ∨ 0 < u * v) ∧ (¬u = 0 ∨ u * v = 0) ∧ (¬v = 0 ∨ u * v = 0) := by
  refine ⟨?_, ?_, ?_, ?_, ?_, ?_⟩
  · by_cases h : 0 < u <;> by_cases h' : 0 < v <;> simp [h, h']
    exact Int.mul_pos h h'
  · by_cases h : u < 0 <;> by_cases h' : 0 < v <;> simp [h, h']
    exact Int.mul_neg_of_neg_of_pos h h'
  · by_cases h : 0 < u <;> by_cases h' : v < 0 <;> simp [h, h']
    exact Int.mul_neg_of_pos_of_neg h h'
  · by_cases h : u < 0 <;> by_cases h' : v < 0 <;> simp [h, h']
    exact Int.mul_pos_of_neg_of_neg h h'
  · by_cases h : u = 0
    · right; rw [h, Int.zero_mul]
    · left; exact h
  · by_cases h : v = 0
    · right; rw [h, Int.mul_zero]
    · left; exact h
theorem sign_lt {n : Int} : signE n < 0 ↔ n < 0 := by unfold signE; (repeat' split) <;> omega
theorem cross_rel (a b p : Pt) : crossE a b p = (a.x - p.x) * (b.y - p.y) - (a.y - p.y) * (b.x - p.x) := by simp only [crossE]; grind
theorem edge_pos {x1 y1 x2 y2 P Q : Int} (hy : ¬ y2 < y1)
    (s1 : (¬0 < x1 ∨ ¬0 < y2 ∨ 0 < P) ∧ (¬x1 < 0 ∨ ¬0 < y2 ∨ P < 0) ∧ (¬0 < x1 ∨ ¬y2 < 0 ∨ P < 0) ∧ (¬x1 < 0 ∨ ¬y2 < 0 ∨ 0 < P) ∧ (¬x1 = 0 ∨ P = 0) ∧ (¬y2 = 0 ∨ P = 0))
    (s2 : (¬0 < y1 ∨ ¬0 < x2 ∨ 0 < Q) ∧ (¬y1 < 0 ∨ ¬0 < x2 ∨ Q < 0) ∧ (¬0 < y1 ∨ ¬x2 < 0 ∨ Q < 0) ∧ (¬y1 < 0 ∨ ¬x2 < 0 ∨ 0 < Q) ∧ (¬y1 = 0 ∨ Q = 0) ∧ (¬x2 = 0 ∨ Q = 0))
    (h : ¬ (P - Q = 0 ∧ (min x1 x2 ≤ 0 ∧ 0 ≤ max x1 x2) ∧ min y1 y2 ≤ 0 ∧ 0 ≤ max y1 y2)) :
    (¬ ((¬ (x1 ≤ 0 ↔ x2 ≤ 0) ∧ (P - Q < 0 ↔ x1 < x2)) ↔ ((y1 ≤ 0 ∧ 0 < y2) ∧ 0 < P - Q))) ↔ ¬ ((0 < x1 ∧ 0 < y1) ↔ (0 < x2 ∧ 0 < y2)) := by
  by_cases c1 : x1 ≤ 0 <;> by_cases c2 : x2 ≤ 0 <;> by_cases c3 : y1 ≤ 0 <;> by_cases c4 : y2 ≤ 0 <;> simp only [c1, c2, c3, c4, true_and, and_true, false_and, and_false, iff_true, true_iff, iff_false, false_iff, not_true_eq_false, not_false_eq_true] <;> omega
theorem edge_neg {x1 y1 x2 y2 P Q : Int} (hy : y2 < y1)
    (s1 : (¬0 < x1 ∨ ¬0 < y2 ∨ 0 < P) ∧ (¬x1 < 0 ∨ ¬0 < y2 ∨ P < 0) ∧ (¬0 < x1 ∨ ¬y2 < 0 ∨ P < 0) ∧ (¬x1 < 0 ∨ ¬y2 < 0 ∨ 0 < P) ∧ (¬x1 = 0 ∨ P = 0) ∧ (¬y2 = 0 ∨ P = 0))
    (s2 : (¬0 < y1 ∨ ¬0 < x2 ∨ 0 < Q) ∧ (¬y1 < 0 ∨ ¬0 < x2 ∨ Q < 0) ∧ (¬0 < y1 ∨ ¬x2 < 0 ∨ Q < 0) ∧ (¬y1 < 0 ∨ ¬x2 < 0 ∨ 0 < Q) ∧ (¬y1 = 0 ∨ Q = 0) ∧ (¬x2 = 0 ∨ Q = 0))
    (h : ¬ (P - Q = 0 ∧ (min x1 x2 ≤ 0 ∧ 0 ≤ max x1 x2) ∧ min y1 y2 ≤ 0 ∧ 0 ≤ max y1 y2)) :
    (¬ ((¬ (x1 ≤ 0 ↔ x2 ≤ 0) ∧ (P - Q < 0 ↔ x1 < x2)) ↔ ((y2 ≤ 0 ∧ 0 < y1) ∧ 0 < -(P - Q)))) ↔ ¬ ((0 < x1 ∧ 0 < y1) ↔ (0 < x2 ∧ 0 < y2)) := by
  by_cases c1 : x1 ≤ 0 <;> by_cases c2 : x2 ≤ 0 <;> by_cases c3 : y1 ≤ 0 <;> by_cases c4 : y2 ≤ 0 <;> simp only [c1, c2, c3, c4, true_and, and_true, false_and, and_false, iff_true, true_iff, iff_false, false_iff, not_true_eq_false, not_false_eq_true] <;> omega
theorem le0 {u v : Int} : u - v ≤ 0 ↔ u ≤ v := by omega
theorem lt0 {u v : Int} : 0 < u - v ↔ v < u := by omega
theorem ltd {u v w : Int} : u - w < v - w ↔ u < v := by omega
theorem edge_par {a b p : Pt} (h : onE a b p = false) : (upX a b p ^^ rightX a b p) = (quad a p ^^ quad b p) := by
  rw [onE, decide_eq_false_iff_not] at h
  have e1 := cross_rel a b p
  have e2 : crossE b a p = -crossE a b p := by simp only [crossE]; grind
  have s1 := sg (u := a.x - p.x) (v := b.y - p.y)
  have s2 := sg (u := a.y - p.y) (v := b.x - p.x)
  unfold upX rightX quad
  simp only [xor_dec, e2]
  refine decide_eq_decide.2 ?_
  rw [e1] at h ⊢
  generalize (a.x - p.x) * (b.y - p.y) = P at *
  generalize (a.y - p.y) * (b.x - p.x) = Q at *
  by_cases hyy : b.y < a.y
  · have := edge_neg (x1 := a.x - p.x) (y1 := a.y - p.y) (x2 := b.x - p.x) (y2 := b.y - p.y) (P := P) (Q := Q) (by omega) s1 s2 (by omega)
    simp only [if_pos hyy, e2, e1]
    simp only [le0, lt0, ltd] at this
    exact this
  · have := edge_pos (x1 := a.x - p.x) (y1 := a.y - p.y) (x2 := b.x - p.x) (y2 := b.y - p.y) (P := P) (Q := Q) (by omega) s1 s2 (by omega)
    simp only [if_neg hyy, e1]
    simp only [le0, lt0, ltd] at this ⊢
    exact this

def parTo (f : Nat → Bool) : Nat → Bool
  | 0 => false
  | i + 1 => parTo f i ^^ f i
theorem parTo_xor (f g : Nat → Bool) : ∀ n : Nat, (parTo f n ^^ parTo g n) = parTo (fun i => f i ^^ g i) n
  | 0 => rfl
  | n + 1 => by
    simp only [parTo]
    rw [← parTo_xor f g n]
    cases parTo f n <;> cases parTo g n <;> cases f n <;> cases g n <;> rfl
theorem parTo_congr {f g : Nat → Bool} : ∀ {n : Nat}, (∀ i, i < n → f i = g i) → parTo f n = parTo g n
  | 0, _ => rfl
  | n + 1, h => by simp only [parTo]; rw [parTo_congr fun i hi => h i (by omega), h n (by omega)]
theorem parTo_tele (g : Nat → Bool) : ∀ n : Nat, parTo (fun i => g i ^^ g (i + 1)) n = (g 0 ^^ g n)
  | 0 => by simp [parTo]
  | n + 1 => by
    simp only [parTo]
    rw [parTo_tele g n]
    cases g 0 <;> cases g n <;> cases g (n + 1) <;> rfl
def onAny (l : List Pt) (p : Pt) : Bool := (List.range l.length).any fun i => onE (cornerP l i) (cornerP l (i + 1)) p
def oddR (l : List Pt) (p : Pt) (n : Nat) : Bool := parTo (fun i => rightX (cornerP l i) (cornerP l (i + 1)) p) n
def oddU (l : List Pt) (p : Pt) (n : Nat) : Bool := parTo (fun i => upX (cornerP l i) (cornerP l (i + 1)) p) n
theorem onAny_yes {l : List Pt} {p : Pt} {i : Nat} (hi : i < l.length) (h : onE (cornerP l i) (cornerP l (i + 1)) p = true) : onAny l p = true := List.any_eq_true.2 ⟨i, List.mem_range.2 hi, h⟩
theorem onAny_no {l : List Pt} {p : Pt} (h : ∀ i, i < l.length → onE (cornerP l i) (cornerP l (i + 1)) p = false) : onAny l p = false := by
  rw [onAny, List.any_eq_false]
  intro i hi
  rw [h i (List.mem_range.1 hi)]; simp
theorem odd_same {l : List Pt} {p : Pt} (h : onAny l p = false) : oddU l p l.length = oddR l p l.length := by
  have h' : ∀ i, i < l.length → onE (cornerP l i) (cornerP l (i + 1)) p = false := fun i hi => by
    rw [onAny, List.any_eq_false] at h
    simpa using h i (List.mem_range.2 hi)
  have : (oddU l p l.length ^^ oddR l p l.length) = false := by
    unfold oddU oddR
    rw [parTo_xor, parTo_congr (g := fun i => quad (cornerP l i) p ^^ quad (cornerP l (i + 1)) p) fun i hi => edge_par (h' i hi), parTo_tele (fun i => quad (cornerP l i) p)]
    have : cornerP l l.length = cornerP l 0 := by have := corner_per l 0; rwa [Nat.zero_add] at this
    rw [this]; simp
  revert this
  cases oddU l p l.length <;> cases oddR l p l.length <;> simp
/-- 1 inside of a polygon, 0 on its border, -1 outside. -/
def insE (l : List Pt) (p : Pt) : Int := if onAny l p = true then 0 else if oddR l p l.length = true then 1 else -1
end Go.Pv.Geo

open Go Go.Proofs Go.Pv
set_option maxHeartbeats 4000000
set_option maxRecDepth 100000
set_option linter.unusedSimpArgs false
set_option linter.unusedVariables false
namespace Go.Pv.Geo
def sgnB (b : Bool) : Int := if b = true then 1 else -1
theorem sgnB_bd (b : Bool) : -1 ≤ sgnB b ∧ sgnB b ≤ 1 := by unfold sgnB; split <;> omega
theorem sgnB_not (b : Bool) : sgnB (b ^^ true) = 0 - sgnB b := by cases b <;> rfl
theorem insE_on {l : List Pt} {p : Pt} (h : onAny l p = true) : insE l p = 0 := if_pos h
theorem insE_off {l : List Pt} {p : Pt} (h : onAny l p = false) : insE l p = sgnB (oddR l p l.length) := by
  rw [insE, if_neg (by rw [h]; simp)]; rfl
theorem c_inside (l : List Pt) (h0 : 0 < l.length) (hl : l.length < 1000000000000) (hok : ∀ q ∈ l, ptOK q = true) (p : Pt) (hp : ptOK p = true) : Contract Try.prog 158 [.sl (l.map encPt), .agg (encPt p)] (.ret (.int .i64 (insE l p))) := by
  refine contract_of mix Try.func158 rfl rfl (by rw [Try.ntmps158]; exact Nat.le_of_ble_eq_true rfl) ?_; rw [Try.results158, Try.ntmps158]; simp only [argsE, Nat.reduceAdd]
  repeat' first
           | (with_reducible apply go_op)
           | (with_reducible apply go_next)
           | ((with_reducible (show evOp _ _ _ _ _ _)); first
             | ((with_reducible (show evOp _ (.move _) _ _ _ _)) ; first | ((with_reducible apply go_mv_int); rfl; rfl) | ((with_reducible apply go_mv_sl); rfl; rfl))
             | ((with_reducible apply go_as))
             | (((with_reducible apply go_len); rfl; rfl))
             | (((with_reducible apply go_bx_agg); rfl; rfl; (exact Nat.le_of_ble_eq_true rfl); rfl; rfl)))
           | ((with_reducible (show evOps _ _ _ _ _ _)); first
             | (with_reducible apply go_nil))
           | ((with_reducible (show evG _ _ _ _ _)); first
             | (with_reducible apply go_seq)
             | (with_reducible apply go_region)
             | (with_reducible apply go_block))
           | (with_reducible apply go_kseq)
  refine go_count l.length (fun i => ⟨[(11, .int .i64 i), (10, .int .i64 l.length), (9, .sl (l.map encPt)), (0, .sl (l.map encPt)), (5, .int .i64 (sgnB (oddR l p i))), (3, .op 0 0 0)], [(0, ⟨2, true, [encPt p]⟩)], 32, 54⟩) (fun i => ∀ j, j < i → onE (cornerP l j) (cornerP l (j + 1)) p = false) (entails_eq (nx := 32) (k := 0) (ns := []) (ks := [11, 10, 9, 0, 5, 3]) [(0, 0)] rfl (by simp) (by kernel_rfl)) (fun j hj => absurd hj (by omega)) ?_
  intro i hi hC
  have hin := sgnB_bd (oddR l p i)
  by_cases hlt : i < l.length
  · have ec := cornerP_lt hlt
    have hoa : ptOK l[i] = true := hok _ (List.getElem_mem hlt)
    have hob : ptOK (cornerP l (i + 1)) = true := hok _ (cornerP_mem h0 _)
    have h188 : Contract Try.prog 188 [.sl (l.map encPt), .int .i64 ((i : Int) + 1)] (.ret (.agg (encPt (cornerP l (i + 1))))) := c_corner l h0 hl (i + 1)
    have h189 := c_on l[i] (cornerP l (i + 1)) p hoa hob hp
    have hx1 := c_cross l[i] (cornerP l (i + 1)) p hoa hob hp
    have hx2 := c_cross (cornerP l (i + 1)) l[i] p hob hoa hp
    have hnx : sgnB (oddR l p (i + 1)) = sgnB (oddR l p i ^^ rightX (cornerP l i) (cornerP l (i + 1)) p) := rfl
    have hCon : onE (cornerP l i) (cornerP l (i + 1)) p = false → ∀ j, j < i + 1 → onE (cornerP l j) (cornerP l (j + 1)) p = false := fun h j hj => by
      rcases Nat.lt_succ_iff_lt_or_eq.1 hj with h' | rfl
      · exact hC j h'
      · exact h
    rw [ec] at hnx hCon
    have hres : onE l[i] (cornerP l (i + 1)) p = true → insE l p = 0 := fun h => insE_on (onAny_yes hlt (by rw [ec]; exact h))
    clear hok h0
    generalize cornerP l (i + 1) = b at *
    have hno : rightX l[i] b p = false → sgnB (oddR l p (i + 1)) = sgnB (oddR l p i) := fun h => by rw [hnx, h, Bool.xor_false]
    have hyes : rightX l[i] b p = true → sgnB (oddR l p (i + 1)) = 0 - sgnB (oddR l p i) := fun h => by rw [hnx, h, sgnB_not]
    by_cases hsw : b.y < l[i].y
    · have hr : rightX l[i] b p = decide ((b.y ≤ p.y ∧ p.y < l[i].y) ∧ 0 < crossE b l[i] p) := by simp only [rightX, if_pos hsw]
      rw [hr] at hno hyes
      repeat' first
           | (with_reducible apply go_op)
           | (with_reducible apply go_next)
           | ((with_reducible (show evOp _ _ _ _ _ _)); first
             | ((with_reducible (show evOp _ (.move _) _ _ _ _)) ; first | ((with_reducible apply go_mv_int); rfl; rfl) | ((with_reducible apply go_mv_bool); rfl; rfl) | ((with_reducible apply go_mv_sl); rfl; rfl))
             | ((with_reducible apply go_as))
             | ((with_reducible (show evOp _ (.load _ _) _ _ _ _)) ; first | ((with_reducible apply go_ld_ptr); rfl; rfl; rfl) | ((with_reducible apply go_ld_agg); rfl; rfl; rfl; rfl) | ((with_reducible apply go_load_own); rfl; rfl; rfl; rfl))
             | (((with_reducible apply go_fieldAddr_own); rfl; rfl; rfl))
             | (((with_reducible apply go_index_nat); rfl; rfl; (with_reducible rfl); (intro; rfl); rfl; omega; (intro hlt)))
             | ((with_reducible (show evOp _ (.binOp _ _ _ _ _) _ _ _ _)) ; first | ((with_reducible apply go_cmp); rfl; rfl; rfl; rfl) | ((with_reducible apply go_add); rfl; rfl; rfl; omega))
             | ((with_reducible (show evOp _ (.call _) _ _ _ _)) ; first | ((with_reducible apply go_fn_plain); rfl; (exact h188); rfl; (exact Nat.le_of_ble_eq_true rfl); rfl) | ((with_reducible apply go_fn_bool); rfl; (exact h189); rfl) | ((with_reducible apply go_fn_int); rfl; (exact hx2); rfl))
             | (((with_reducible apply go_st_agg); rfl; rfl; rfl; rfl; rfl; rfl; rfl))
             | (((with_reducible apply go_neg); rfl; rfl; omega))
             | (((with_reducible apply go_pick); rfl; rfl; rfl))
             | (((with_reducible apply go_alloc); rfl; rfl; rfl)))
           | ((with_reducible (show evOps _ _ _ _ _ _)); first
             | (with_reducible apply go_nil)
             | ((with_reducible apply go_run); rfl; rfl)
             | ((with_reducible apply go_pass); rfl; rfl; rfl)
             | (((with_reducible apply go_guard); rfl) <;> (intro h; simp only [h, Bool.not_true, Bool.not_false]; (try with_reducible (refine ⟨rfl, ?_⟩)); try simp only [decide_eq_true_eq, decide_eq_false_iff_not, Bool.not_eq_true', Bool.not_eq_false', Bool.not_true, Bool.not_false] at h; try exact absurd trivial h)))
           | ((with_reducible (show evG _ _ _ _ _)); first
             | (with_reducible apply go_seq)
             | (with_reducible apply go_region)
             | ((with_reducible apply go_cond_f); rfl; rfl)
             | (((with_reducible apply go_cond); rfl) <;> (intro h; simp only [h]; try simp only [decide_eq_true_eq, decide_eq_false_iff_not, Bool.not_eq_true', Bool.not_eq_false', Bool.not_true, Bool.not_false] at h; try exact absurd trivial h))
             | (with_reducible apply go_ret)
             | (with_reducible apply go_skipc)
             | (with_reducible apply go_block)
             | (with_reducible apply go_exit))
           | (with_reducible apply go_kseq)
           | (with_reducible apply go_kseq_ret)
           | (with_reducible apply go_kblock)
           | (with_reducible apply go_kblock_ret)
           | (with_reducible apply go_kblock_exit)
           | (with_reducible apply go_kseq_exit)
           | ((with_reducible apply end_int); rfl)
      all_goals try exact absurd hlt (by omega)
      all_goals first
        | exact (hres (by assumption)).symm
        | (refine ⟨by omega, hCon (by assumption), ?_⟩; rw [hno (decide_eq_false (by omega))]; exact entails_eq (nx := 32) (k := 0) (ns := []) (ks := [11, 10, 9, 0, 5, 3]) [(0, 0)] rfl (by simp) (by kernel_rfl))
        | (refine ⟨by omega, hCon (by assumption), ?_⟩; rw [hyes (decide_eq_true (by omega))]; exact entails_eq (nx := 32) (k := 0) (ns := []) (ks := [11, 10, 9, 0, 5, 3]) [(0, 0)] rfl (by simp) (by kernel_rfl))
        | trace_state
    · have hr : rightX l[i] b p = decide ((l[i].y ≤ p.y ∧ p.y < b.y) ∧ 0 < crossE l[i] b p) := by simp only [rightX, if_neg hsw]
      rw [hr] at hno hyes
      repeat' first
           | (with_reducible apply go_op)
           | (with_reducible apply go_next)
           | ((with_reducible (show evOp _ _ _ _ _ _)); first
             | ((with_reducible (show evOp _ (.move _) _ _ _ _)) ; first | ((with_reducible apply go_mv_int); rfl; rfl) | ((with_reducible apply go_mv_bool); rfl; rfl) | ((with_reducible apply go_mv_sl); rfl; rfl))
             | ((with_reducible apply go_as))
             | ((with_reducible (show evOp _ (.load _ _) _ _ _ _)) ; first | ((with_reducible apply go_ld_ptr); rfl; rfl; rfl) | ((with_reducible apply go_ld_agg); rfl; rfl; rfl; rfl) | ((with_reducible apply go_load_own); rfl; rfl; rfl; rfl))
             | (((with_reducible apply go_fieldAddr_own); rfl; rfl; rfl))
             | (((with_reducible apply go_index_nat); rfl; rfl; (with_reducible rfl); (intro; rfl); rfl; omega; (intro hlt)))
             | ((with_reducible (show evOp _ (.binOp _ _ _ _ _) _ _ _ _)) ; first | ((with_reducible apply go_cmp); rfl; rfl; rfl; rfl) | ((with_reducible apply go_add); rfl; rfl; rfl; omega))
             | ((with_reducible (show evOp _ (.call _) _ _ _ _)) ; first | ((with_reducible apply go_fn_plain); rfl; (exact h188); rfl; (exact Nat.le_of_ble_eq_true rfl); rfl) | ((with_reducible apply go_fn_bool); rfl; (exact h189); rfl) | ((with_reducible apply go_fn_int); rfl; (exact hx1); rfl))
             | (((with_reducible apply go_st_agg); rfl; rfl; rfl; rfl; rfl; rfl; rfl))
             | (((with_reducible apply go_neg); rfl; rfl; omega))
             | (((with_reducible apply go_pick); rfl; rfl; rfl))
             | (((with_reducible apply go_alloc); rfl; rfl; rfl)))
           | ((with_reducible (show evOps _ _ _ _ _ _)); first
             | (with_reducible apply go_nil)
             | ((with_reducible apply go_run); rfl; rfl)
             | ((with_reducible apply go_pass); rfl; rfl; rfl)
             | (((with_reducible apply go_guard); rfl) <;> (intro h; simp only [h, Bool.not_true, Bool.not_false]; (try with_reducible (refine ⟨rfl, ?_⟩)); try simp only [decide_eq_true_eq, decide_eq_false_iff_not, Bool.not_eq_true', Bool.not_eq_false', Bool.not_true, Bool.not_false] at h; try exact absurd trivial h)))
           | ((with_reducible (show evG _ _ _ _ _)); first
             | (with_reducible apply go_seq)
             | (with_reducible apply go_region)
             | ((with_reducible apply go_cond_f); rfl; rfl)
             | (((with_reducible apply go_cond); rfl) <;> (intro h; simp only [h]; try simp only [decide_eq_true_eq, decide_eq_false_iff_not, Bool.not_eq_true', Bool.not_eq_false', Bool.not_true, Bool.not_false] at h; try exact absurd trivial h))
             | (with_reducible apply go_ret)
             | (with_reducible apply go_skipc)
             | (with_reducible apply go_block)
             | (with_reducible apply go_exit))
           | (with_reducible apply go_kseq)
           | (with_reducible apply go_kseq_ret)
           | (with_reducible apply go_kblock)
           | (with_reducible apply go_kblock_ret)
           | (with_reducible apply go_kblock_exit)
           | (with_reducible apply go_kseq_exit)
           | ((with_reducible apply end_int); rfl)
      all_goals try exact absurd hlt (by omega)
      all_goals first
        | exact (hres (by assumption)).symm
        | (refine ⟨by omega, hCon (by assumption), ?_⟩; rw [hno (decide_eq_false (by omega))]; exact entails_eq (nx := 32) (k := 0) (ns := []) (ks := [11, 10, 9, 0, 5, 3]) [(0, 0)] rfl (by simp) (by kernel_rfl))
        | (refine ⟨by omega, hCon (by assumption), ?_⟩; rw [hyes (decide_eq_true (by omega))]; exact entails_eq (nx := 32) (k := 0) (ns := []) (ks := [11, 10, 9, 0, 5, 3]) [(0, 0)] rfl (by simp) (by kernel_rfl))
        | trace_state
  · have e : i = l.length := by omega
    rw [insE_off (onAny_no fun j hj => hC j (by omega))]
    repeat' first
           | (with_reducible apply go_op)
           | (with_reducible apply go_next)
           | ((with_reducible (show evOp _ _ _ _ _ _)); first
             | ((with_reducible (show evOp _ (.move _) _ _ _ _)) ; first | ((with_reducible apply go_mv_int); rfl; rfl) | ((with_reducible apply go_mv_sl); rfl; rfl))
             | ((with_reducible apply go_as))
             | (((with_reducible apply go_ld_ptr); rfl; rfl; rfl))
             | (((with_reducible apply go_index_nat); rfl; rfl; (with_reducible rfl); (intro; rfl); rfl; omega; (intro hlt)))
             | ((with_reducible (show evOp _ (.binOp _ _ _ _ _) _ _ _ _)) ; first | ((with_reducible apply go_cmp); rfl; rfl; rfl; rfl) | ((with_reducible apply go_add); rfl; rfl; rfl; omega))
             | (((with_reducible apply go_st_agg); rfl; rfl; rfl; rfl; rfl; rfl; rfl))
             | (((with_reducible apply go_alloc); rfl; rfl; rfl)))
           | ((with_reducible (show evOps _ _ _ _ _ _)); first
             | (with_reducible apply go_nil))
           | ((with_reducible (show evG _ _ _ _ _)); first
             | (with_reducible apply go_seq)
             | (with_reducible apply go_region)
             | (((with_reducible apply go_cond); rfl) <;> (intro h; simp only [h]; try simp only [decide_eq_true_eq, decide_eq_false_iff_not, Bool.not_eq_true', Bool.not_eq_false', Bool.not_true, Bool.not_false] at h; try exact absurd trivial h))
             | (with_reducible apply go_ret)
             | (with_reducible apply go_skipc)
             | (with_reducible apply go_block)
             | (with_reducible apply go_exit))
           | (with_reducible apply go_kseq)
           | (with_reducible apply go_kblock_exit)
           | (with_reducible apply go_kseq_exit)
           | ((with_reducible apply end_int); rfl)
    all_goals first
      | exact absurd hlt (by omega)
      | (rw [← e])
      | trace_state
theorem insE_up {l : List Pt} {p : Pt} (h : onAny l p = false) : insE l p = sgnB (oddU l p l.length) := by rw [insE_off h, odd_same h]
theorem bxor {A B : Prop} [Decidable A] [Decidable B] : (decide A == decide B) = decide (A ↔ B) := by by_cases h : A <;> by_cases h' : B <;> simp [h, h']
theorem c_rInside (l : List Pt) (h0 : 0 < l.length) (hl : l.length < 1000000000000) (hok : ∀ q ∈ l, ptOK q = true) (p : Pt) (hp : ptOK p = true) : Contract Try.prog 118 [.sl (l.map encPt), .agg (encPt p)] (.ret (.int .i64 (insE l p))) := by
  refine contract_of mix Try.func118 rfl rfl (by rw [Try.ntmps118]; exact Nat.le_of_ble_eq_true rfl) ?_; rw [Try.results118, Try.ntmps118]; simp only [argsE, Nat.reduceAdd]
  repeat' first
           | (with_reducible apply go_op)
           | (with_reducible apply go_next)
           | ((with_reducible (show evOp _ _ _ _ _ _)); first
             | ((with_reducible (show evOp _ (.move _) _ _ _ _)) ; first | ((with_reducible apply go_mv_int); rfl; rfl) | ((with_reducible apply go_mv_bool); rfl; rfl))
             | ((with_reducible apply go_as))
             | (((with_reducible apply go_bx_agg); rfl; rfl; (exact Nat.le_of_ble_eq_true rfl); rfl; rfl)))
           | ((with_reducible (show evOps _ _ _ _ _ _)); first
             | (with_reducible apply go_nil))
           | ((with_reducible (show evG _ _ _ _ _)); first
             | (with_reducible apply go_seq)
             | (with_reducible apply go_region)
             | (with_reducible apply go_block))
           | (with_reducible apply go_kseq)
  refine go_count l.length (fun i => ⟨[(6, .int .i64 i), (0, .sl (l.map encPt)), (5, .bool (oddU l p i)), (3, .op 0 0 0)], [(0, ⟨2, true, [encPt p]⟩)], 32, 53⟩) (fun i => ∀ j, j < i → onE (cornerP l j) (cornerP l (j + 1)) p = false) (entails_eq (nx := 32) (k := 0) (ns := []) (ks := [6, 0, 5, 3]) [(0, 0)] rfl (by simp) (by kernel_rfl)) (fun j hj => absurd hj (by omega)) ?_
  intro i hi hC
  by_cases hlt : i < l.length
  · have hoa : ptOK (cornerP l i) = true := hok _ (cornerP_mem h0 _)
    have hob : ptOK (cornerP l (i + 1)) = true := hok _ (cornerP_mem h0 _)
    have k0 := c_rcorner l h0 hl i
    have k1 : Contract Try.prog 159 [.sl (l.map encPt), .int .i64 ((i : Int) + 1)] (.ret (.agg (encPt (cornerP l (i + 1))))) := c_rcorner l h0 hl (i + 1)
    have hb := c_rbetween (cornerP l i) (cornerP l (i + 1)) p hoa hob hp
    have ho := c_rorient (cornerP l i) (cornerP l (i + 1)) p hoa hob hp
    have hnx : oddU l p (i + 1) = (oddU l p i ^^ upX (cornerP l i) (cornerP l (i + 1)) p) := rfl
    have hCon : onE (cornerP l i) (cornerP l (i + 1)) p = false → ∀ j, j < i + 1 → onE (cornerP l j) (cornerP l (j + 1)) p = false := fun h j hj => by
      rcases Nat.lt_succ_iff_lt_or_eq.1 hj with h' | rfl
      · exact hC j h'
      · exact h
    have hres : onE (cornerP l i) (cornerP l (i + 1)) p = true → insE l p = 0 := fun h => insE_on (onAny_yes hlt h)
    clear hok h0
    generalize cornerP l (i + 1) = b at *
    generalize cornerP l i = a at *
    have hno : upX a b p = false → oddU l p (i + 1) = oddU l p i := fun h => by rw [hnx, h, Bool.xor_false]
    have hyes : upX a b p = true → oddU l p (i + 1) = !oddU l p i := fun h => by rw [hnx, h, Bool.xor_true]
    have hsl := sign_lt (n := crossE a b p)
    unfold upX at hno hyes
    repeat' first
           | (with_reducible apply go_op)
           | (with_reducible apply go_next)
           | ((with_reducible (show evOp _ _ _ _ _ _)); first
             | ((with_reducible (show evOp _ (.move _) _ _ _ _)) ; first | ((with_reducible apply go_mv_int); rfl; rfl) | ((with_reducible apply go_mv_bool); rfl; rfl) | ((with_reducible apply go_mv_sl); rfl; rfl))
             | ((with_reducible apply go_as))
             | ((with_reducible (show evOp _ (.load _ _) _ _ _ _)) ; first | ((with_reducible apply go_ld_agg); rfl; rfl; rfl; rfl) | ((with_reducible apply go_load_own); rfl; rfl; rfl; rfl))
             | (((with_reducible apply go_fieldAddr_own); rfl; rfl; rfl))
             | ((with_reducible (show evOp _ (.binOp _ _ _ _ _) _ _ _ _)) ; first | ((with_reducible apply go_cmp); rfl; rfl; rfl; rfl) | ((with_reducible apply go_add); rfl; rfl; rfl; omega) | ((with_reducible apply go_bin); rfl; rfl))
             | ((with_reducible (show evOp _ (.call _) _ _ _ _)) ; first | ((with_reducible apply go_len); rfl; rfl) | ((with_reducible apply go_fn_plain); rfl; (exact k0); rfl; (exact Nat.le_of_ble_eq_true rfl); rfl) | ((with_reducible apply go_fn_plain); rfl; (exact k1); rfl; (exact Nat.le_of_ble_eq_true rfl); rfl) | ((with_reducible apply go_fn_bool); rfl; (exact hb); rfl) | ((with_reducible apply go_fn_int); rfl; (exact ho); rfl))
             | (((with_reducible apply go_st_agg); rfl; rfl; rfl; rfl; rfl; rfl; rfl))
             | (((with_reducible apply go_not); rfl; rfl))
             | (((with_reducible apply go_pick); rfl; rfl; rfl))
             | (((with_reducible apply go_alloc); rfl; rfl; rfl)))
           | ((with_reducible (show evOps _ _ _ _ _ _)); first
             | (with_reducible apply go_nil)
             | ((with_reducible apply go_run); rfl; rfl)
             | ((with_reducible apply go_pass); rfl; rfl; rfl)
             | (((with_reducible apply go_guard); rfl) <;> (intro h; simp only [h, Bool.not_true, Bool.not_false]; (try with_reducible (refine ⟨rfl, ?_⟩)); try simp only [decide_eq_true_eq, decide_eq_false_iff_not, Bool.not_eq_true', Bool.not_eq_false', Bool.not_true, Bool.not_false] at h; try exact absurd trivial h))
             | ((with_reducible apply go_pre); rfl)
             | (with_reducible apply go_pre_nil)
             | ((with_reducible apply go_suf); rfl)
             | (with_reducible apply go_suf_nil))
           | ((with_reducible (show evG _ _ _ _ _)); first
             | (with_reducible apply go_seq)
             | (with_reducible apply go_region)
             | ((with_reducible apply go_cond_f); rfl; rfl)
             | (((with_reducible apply go_cond); rfl) <;> (intro h; simp only [h]; try simp only [decide_eq_true_eq, decide_eq_false_iff_not, Bool.not_eq_true', Bool.not_eq_false', Bool.not_true, Bool.not_false] at h; try exact absurd trivial h))
             | ((with_reducible apply go_order); kernel_rfl; rfl)
             | (with_reducible apply go_ret)
             | (with_reducible apply go_skipc)
             | (with_reducible apply go_block)
             | (with_reducible apply go_exit))
           | (with_reducible apply go_kseq)
           | (with_reducible apply go_ksuf)
           | (with_reducible apply go_kseq_ret)
           | (with_reducible apply go_kblock)
           | (with_reducible apply go_kblock_ret)
           | (with_reducible apply go_kblock_exit)
           | (with_reducible apply go_kseq_exit)
           | ((with_reducible apply end_int); rfl)
    all_goals try exact absurd hlt (by omega)
    all_goals first
      | exact (hres (by assumption)).symm
      | (have q1 := decide_eq_false_iff_not.1 (bxor.symm.trans ‹(decide (a.x ≤ p.x) == decide (b.x ≤ p.x)) = false›)
         have q2 := of_decide_eq_true (bxor.symm.trans ‹(decide (signE (crossE a b p) < 0) == decide (a.x < b.x)) = true›)
         rw [hsl] at q2
         refine ⟨by omega, hCon (by assumption), ?_⟩; rw [hyes (decide_eq_true ⟨q1, q2⟩)]; exact entails_eq (nx := 32) (k := 0) (ns := []) (ks := [6, 0, 5, 3]) [(0, 0)] rfl (by simp) (by kernel_rfl))
      | (have q2 := decide_eq_false_iff_not.1 (bxor.symm.trans ‹(decide (signE (crossE a b p) < 0) == decide (a.x < b.x)) = false›)
         rw [hsl] at q2
         refine ⟨by omega, hCon (by assumption), ?_⟩; rw [hno (decide_eq_false fun q => q2 q.2)]; exact entails_eq (nx := 32) (k := 0) (ns := []) (ks := [6, 0, 5, 3]) [(0, 0)] rfl (by simp) (by kernel_rfl))
      | (have q1 := of_decide_eq_true (bxor.symm.trans ‹(decide (a.x ≤ p.x) == decide (b.x ≤ p.x)) = true›)
         refine ⟨by omega, hCon (by assumption), ?_⟩; rw [hno (decide_eq_false fun q => q.1 q1)]; exact entails_eq (nx := 32) (k := 0) (ns := []) (ks := [6, 0, 5, 3]) [(0, 0)] rfl (by simp) (by kernel_rfl))
      | trace_state
  · have e : i = l.length := by omega
    rw [insE_up (onAny_no fun j hj => hC j (by omega))]
    subst e
    repeat' first
           | (with_reducible apply go_op)
           | (with_reducible apply go_next)
           | ((with_reducible (show evOp _ _ _ _ _ _)); first
             | ((with_reducible (show evOp _ (.move _) _ _ _ _)) ; first | ((with_reducible apply go_mv_int); rfl; rfl) | ((with_reducible apply go_mv_bool); rfl; rfl) | ((with_reducible apply go_mv_sl); rfl; rfl))
             | ((with_reducible apply go_as))
             | (((with_reducible apply go_cmp); rfl; rfl; rfl; rfl))
             | (((with_reducible apply go_len); rfl; rfl)))
           | ((with_reducible (show evOps _ _ _ _ _ _)); first
             | (with_reducible apply go_nil))
           | ((with_reducible (show evG _ _ _ _ _)); first
             | (with_reducible apply go_seq)
             | (with_reducible apply go_region)
             | (((with_reducible apply go_cond); rfl) <;> (intro h; simp only [h]; try simp only [decide_eq_true_eq, decide_eq_false_iff_not, Bool.not_eq_true', Bool.not_eq_false', Bool.not_true, Bool.not_false] at h; try exact absurd trivial h))
             | (with_reducible apply go_ret)
             | (with_reducible apply go_skipc)
             | (with_reducible apply go_block)
             | (with_reducible apply go_exit))
           | (with_reducible apply go_kseq)
           | (with_reducible apply go_kseq_ret)
           | (with_reducible apply go_kblock_exit)
           | (with_reducible apply go_kseq_exit)
           | ((with_reducible apply end_int); rfl)
    all_goals first
      | exact absurd hlt (by omega)
      | rfl
      | trace_state
/-- What Inside answers. -/
def insX (l : List Pt) (p : Pt) : Int × Int := if polyE l ≠ 0 then (0, polyE l) else if ptOK p = false then (0, 2) else (insE l p, 0)
theorem c_Inside (l : List Pt) (p : Pt) : Contract Try.prog 115 [.sl (l.map encPt), .agg (encPt p)] (.ret (.tup [.int .i64 (insX l p).1, .int .i64 (insX l p).2])) := by
  have hC := c_CheckPolygon l
  have ho := c_outside_1 p
  by_cases hz : polyE l = 0
  rotate_left
  · have e : insX l p = (0, polyE l) := if_pos hz
    rw [e]
    refine contract_of mix Try.func115 rfl rfl (by rw [Try.ntmps115]; exact Nat.le_of_ble_eq_true rfl) ?_; rw [Try.results115, Try.ntmps115]; simp only [argsE, Nat.reduceAdd]
    repeat' first
           | (with_reducible apply go_op)
           | (with_reducible apply go_next)
           | ((with_reducible (show evOp _ _ _ _ _ _)); first
             | ((with_reducible (show evOp _ (.move _) _ _ _ _)) ; first | ((with_reducible apply go_mv_int); rfl; rfl) | ((with_reducible apply go_mv_sl); rfl; rfl))
             | ((with_reducible apply go_as))
             | (((with_reducible apply go_ld_agg); rfl; rfl; rfl; rfl))
             | (((with_reducible apply go_cmp); rfl; rfl; rfl; rfl))
             | (((with_reducible apply go_fn_int); rfl; (exact hC); rfl))
             | (((with_reducible apply go_bx_agg); rfl; rfl; (exact Nat.le_of_ble_eq_true rfl); rfl; rfl))
             | (((with_reducible apply go_bs1_agg); rfl; rfl; rfl; rfl; rfl; rfl)))
           | ((with_reducible (show evOps _ _ _ _ _ _)); first
             | (with_reducible apply go_nil))
           | ((with_reducible (show evG _ _ _ _ _)); first
             | (with_reducible apply go_seq)
             | (with_reducible apply go_region)
             | (((with_reducible apply go_cond); rfl) <;> (intro h; simp only [h]; try simp only [decide_eq_true_eq, decide_eq_false_iff_not, Bool.not_eq_true', Bool.not_eq_false', Bool.not_true, Bool.not_false] at h; try exact absurd trivial h))
             | (with_reducible apply go_ret)
             | (with_reducible apply go_skipc))
           | (with_reducible apply go_kseq)
           | (with_reducible apply go_kseq_ret)
           | ((with_reducible apply end_t2); rfl; rfl; rfl; rfl)
    all_goals first | rfl | (exfalso; omega)
  obtain ⟨⟨h3, h40⟩, hok, -⟩ := poly_ok hz
  cases hp : ptOK p
  · have e : insX l p = (0, 2) := by rw [insX, if_neg (by omega), if_pos hp]
    rw [e]
    rw [hz] at hC
    rw [hp] at ho
    refine contract_of mix Try.func115 rfl rfl (by rw [Try.ntmps115]; exact Nat.le_of_ble_eq_true rfl) ?_; rw [Try.results115, Try.ntmps115]; simp only [argsE, Nat.reduceAdd]
    repeat' first
           | (with_reducible apply go_op)
           | (with_reducible apply go_next)
           | ((with_reducible (show evOp _ _ _ _ _ _)); first
             | ((with_reducible (show evOp _ (.move _) _ _ _ _)) ; first | ((with_reducible apply go_mv_int); rfl; rfl) | ((with_reducible apply go_mv_sl); rfl; rfl))
             | ((with_reducible apply go_as))
             | (((with_reducible apply go_ld_agg); rfl; rfl; rfl; rfl))
             | (((with_reducible apply go_cmp); rfl; rfl; rfl; rfl))
             | ((with_reducible (show evOp _ (.call _) _ _ _ _)) ; first | ((with_reducible apply go_fn_int); rfl; (exact hC); rfl) | ((with_reducible apply go_fn_bool); (exact purL_os rfl (by simp) rfl); (exact ho); rfl))
             | (((with_reducible apply go_bx_agg); rfl; rfl; (exact Nat.le_of_ble_eq_true rfl); rfl; rfl))
             | (((with_reducible apply go_bs1_agg); rfl; rfl; rfl; rfl; rfl; rfl)))
           | ((with_reducible (show evOps _ _ _ _ _ _)); first
             | (with_reducible apply go_nil))
           | ((with_reducible (show evG _ _ _ _ _)); first
             | (with_reducible apply go_seq)
             | (with_reducible apply go_region)
             | ((with_reducible apply go_cond_t); rfl; rfl)
             | ((with_reducible apply go_cond_f); rfl; rfl)
             | (with_reducible apply go_ret)
             | (with_reducible apply go_skipc))
           | (with_reducible apply go_kseq)
           | (with_reducible apply go_kseq_ret)
           | ((with_reducible apply end_t2); rfl; rfl; rfl; rfl)
    all_goals first | rfl | (exfalso; omega)
  · have e : insX l p = (insE l p, 0) := by rw [insX, if_neg (by omega), if_neg (by rw [hp]; simp)]
    rw [e]
    rw [hz] at hC
    rw [hp] at ho
    have hi := c_inside l (by omega) (by omega) hok p hp
    refine contract_of mix Try.func115 rfl rfl (by rw [Try.ntmps115]; exact Nat.le_of_ble_eq_true rfl) ?_; rw [Try.results115, Try.ntmps115]; simp only [argsE, Nat.reduceAdd]
    repeat' first
           | (with_reducible apply go_op)
           | (with_reducible apply go_next)
           | ((with_reducible (show evOp _ _ _ _ _ _)); first
             | ((with_reducible (show evOp _ (.move _) _ _ _ _)) ; first | ((with_reducible apply go_mv_int); rfl; rfl) | ((with_reducible apply go_mv_sl); rfl; rfl))
             | ((with_reducible apply go_as))
             | (((with_reducible apply go_ld_agg); rfl; rfl; rfl; rfl))
             | (((with_reducible apply go_cmp); rfl; rfl; rfl; rfl))
             | ((with_reducible (show evOp _ (.call _) _ _ _ _)) ; first | ((with_reducible apply go_fn_int); rfl; (exact hC); rfl) | ((with_reducible apply go_fn_bool); (exact purL_os rfl (by simp) rfl); (exact ho); rfl) | ((with_reducible apply go_fn_int); rfl; (exact hi); rfl))
             | (((with_reducible apply go_bx_agg); rfl; rfl; (exact Nat.le_of_ble_eq_true rfl); rfl; rfl))
             | (((with_reducible apply go_bs1_agg); rfl; rfl; rfl; rfl; rfl; rfl)))
           | ((with_reducible (show evOps _ _ _ _ _ _)); first
             | (with_reducible apply go_nil))
           | ((with_reducible (show evG _ _ _ _ _)); first
             | (with_reducible apply go_seq)
             | (with_reducible apply go_region)
             | ((with_reducible apply go_cond_f); rfl; rfl)
             | (with_reducible apply go_ret)
             | (with_reducible apply go_skipc))
           | (with_reducible apply go_kseq)
           | ((with_reducible apply end_t2); rfl; rfl; rfl; rfl)
    all_goals first | rfl | (exfalso; omega)
end Go.Pv.Geo
